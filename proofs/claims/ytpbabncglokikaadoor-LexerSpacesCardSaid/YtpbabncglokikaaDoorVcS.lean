/-
  A part of the proof of a law: see the text that states it.
-/
import Derived.Test.YtpbabncglokikaaDoorHead
set_option linter.all false
namespace Go.Am.L
open Go
set_option maxRecDepth 100000
set_option maxHeartbeats 4000000
/-- tronage/tronagelaw05.LexerSpaces -/
theorem vc5 (x0 : List Int) (x1 : Int) (x2 : List Int) (Q : AV → Heap → Prop) (h :
(∃ y0 : Bool,
 (Need (E 10 [] [] (.tv [] .bool y0) []) ∧
 ((((decide ((300 : Int) < ((List.length x0) : Int))) = true) →
  (Q (.tv [] .bool y0) [])) ∧
 (((decide ((300 : Int) < ((List.length x0) : Int))) = false) →
 ((((decide (x1 < (0 : Int))) = true) →
  (Q (.tv [] .bool y0) [])) ∧
 (((decide (x1 < (0 : Int))) = false) →
 ((((decide ((9 : Int) < x1)) = true) →
  (Q (.tv [] .bool y0) [])) ∧
 (((decide ((9 : Int) < x1)) = false) →
 ((((decide ((50 : Int) < ((List.length x2) : Int))) = true) →
  (Q (.tv [] .bool y0) [])) ∧
 (((decide ((50 : Int) < ((List.length x2) : Int))) = false) →
 (∃ y9 : (Int → Prop),
 (∃ y10 : (Int → Nat),
 ((y9 (0 : Int)) ∧
 (∀ z11 : Int,
 ((y9 z11) →
 ((((decide (z11 < ((List.length x2) : Int))) = true) →
  (Need (((0 : Int) ≤ z11) ∧ (z11 < ((List.length x2) : Int))) ∧
  ((((decide ((List.getD x2 (Int.toNat z11) (0 : Int)) = (10 : Int))) = true) →
   (Q (.tv [] .bool y0) [])) ∧
  (((decide ((List.getD x2 (Int.toNat z11) (0 : Int)) = (10 : Int))) = false) →
  (Need (((-9223372036854775808 : Int) ≤ (z11 + (1 : Int))) ∧ ((z11 + (1 : Int)) ≤ (9223372036854775807 : Int))) ∧
  ((y9 (z11 + (1 : Int))) ∧
  Need ((y10 (z11 + (1 : Int))) < (y10 z11)))))))) ∧
 (((decide (z11 < ((List.length x2) : Int))) = false) →
 (Need ((1 + (List.length x2)) ≤ bigN) ∧
 (Need (((List.length ([(35 : Int)] ++ x2)) + 1) ≤ bigN) ∧
 (∃ y17 : ((List Int) → (Int → Prop)),
 (∃ y18 : ((List Int) → (Int → Nat)),
 ((y17 (([(35 : Int)] ++ x2) ++ [(10 : Int)]) (0 : Int)) ∧
 (∀ z19 : (List Int),
 (∀ z20 : Int,
 ((y17 z19 z20) →
 ((((decide (z20 < x1)) = true) →
  (Need ((4 : Int) ≠ (0 : Int)) ∧
  (Need (¬ ((IntKind.i64 = IntKind.u8) ∧ (¬ (((0 : Int) ≤ z20) ∧ ((z20 < (256 : Int)) ∧ ((0 : Int) < (4 : Int))))))) ∧
  (Need ((4 : Int) ≠ (0 : Int)) ∧
  (Need (¬ ((IntKind.i64 = IntKind.u8) ∧ (¬ (((0 : Int) ≤ z20) ∧ ((z20 < (256 : Int)) ∧ ((0 : Int) < (4 : Int))))))) ∧
  (Need (((-9223372036854775808 : Int) ≤ ((Int.tmod z20 (4 : Int)) + (1 : Int))) ∧ (((Int.tmod z20 (4 : Int)) + (1 : Int)) ≤ (9223372036854775807 : Int))) ∧
  (Need (((0 : Int) ≤ (Int.tmod z20 (4 : Int))) ∧ (((Int.tmod z20 (4 : Int)) ≤ ((Int.tmod z20 (4 : Int)) + (1 : Int))) ∧ (((Int.tmod z20 (4 : Int)) + (1 : Int)) ≤ (4 : Int)))) ∧
  (Need (((List.length z19) + (List.length (cut [(32 : Int), (9 : Int), (13 : Int), (10 : Int)] (Int.toNat (Int.tmod z20 (4 : Int))) (Int.toNat ((Int.tmod z20 (4 : Int)) + (1 : Int)))))) ≤ bigN) ∧
  (Need (((-9223372036854775808 : Int) ≤ (z20 + (1 : Int))) ∧ ((z20 + (1 : Int)) ≤ (9223372036854775807 : Int))) ∧
  ((y17 (z19 ++ (cut [(32 : Int), (9 : Int), (13 : Int), (10 : Int)] (Int.toNat (Int.tmod z20 (4 : Int))) (Int.toNat ((Int.tmod z20 (4 : Int)) + (1 : Int))))) (z20 + (1 : Int))) ∧
  Need ((y18 (z19 ++ (cut [(32 : Int), (9 : Int), (13 : Int), (10 : Int)] (Int.toNat (Int.tmod z20 (4 : Int))) (Int.toNat ((Int.tmod z20 (4 : Int)) + (1 : Int))))) (z20 + (1 : Int))) < (y18 z19 z20)))))))))))) ∧
 (((decide (z20 < x1)) = false) →
 (∃ y24 : (List (Prod Int (Prod (List Int) (Prod (Prod Int (Prod Int PUnit)) PUnit)))),
 (∃ y25 : Int,
 (∃ y26 : Int,
 (∃ y27 : Int,
 (Need (E 11 [(.tv [] .str x0)] [] (.tup [(.tv [] (.slice (.pair (.int .i64) (.pair .str (.pair (.pair (.int .i64) (.pair (.int .i64) .unit)) .unit)))) y24), (.tv [] (.pair (.int .i64) (.pair (.pair (.int .i64) (.pair (.int .i64) .unit)) .unit)) (y25, ((y26, (y27, ())), ())))]) []) ∧
 (Need (((List.length z19) + (List.length x0)) ≤ bigN) ∧
 (Need (((List.length (z19 ++ x0)) + 1) ≤ bigN) ∧
 (Need (((List.length ((z19 ++ x0) ++ [(10 : Int)])) + (List.length z19)) ≤ bigN) ∧
 (Need (((List.length (((z19 ++ x0) ++ [(10 : Int)]) ++ z19)) + 1) ≤ bigN) ∧
 (Need (((List.length ((((z19 ++ x0) ++ [(10 : Int)]) ++ z19) ++ [(35 : Int)])) + (List.length x2)) ≤ bigN) ∧
 (∃ y28 : (List (Prod Int (Prod (List Int) (Prod (Prod Int (Prod Int PUnit)) PUnit)))),
 (∃ y29 : Int,
 (∃ y30 : Int,
 (∃ y31 : Int,
 (Need (E 11 [(.tv [] .str (((((z19 ++ x0) ++ [(10 : Int)]) ++ z19) ++ [(35 : Int)]) ++ x2))] [] (.tup [(.tv [] (.slice (.pair (.int .i64) (.pair .str (.pair (.pair (.int .i64) (.pair (.int .i64) .unit)) .unit)))) y28), (.tv [] (.pair (.int .i64) (.pair (.pair (.int .i64) (.pair (.int .i64) .unit)) .unit)) (y29, ((y30, (y31, ())), ())))]) []) ∧
 ((((decide (y25 ≠ (0 : Int))) = true) →
  ((((decide (y25 ≠ (11 : Int))) = true) →
   (((y0 = true) →
    ((((decide (y29 = y25)) = true) →
     (Q (.tv [] .bool true) [])) ∧
    (((decide (y29 = y25)) = false) →
    (Q (.tv [] .bool (decide (y29 ≠ (0 : Int)))) [])))) ∧
   ((y0 = false) →
   (Q (.tv [] .bool false) [])))) ∧
  (((decide (y25 ≠ (11 : Int))) = false) →
  ((((decide (y25 ≠ (0 : Int))) = true) →
   (Q (.tv [] .bool y0) [])) ∧
  (((decide (y25 ≠ (0 : Int))) = false) →
  ((((decide (y29 ≠ (0 : Int))) = true) →
   (Q (.tv [] .bool false) [])) ∧
  (((decide (y29 ≠ (0 : Int))) = false) →
  ((((decide (((List.length y24) : Int) ≠ ((List.length y28) : Int))) = true) →
   (Q (.tv [] .bool false) [])) ∧
  (((decide (((List.length y24) : Int) ≠ ((List.length y28) : Int))) = false) →
  (∃ y45 : (Int → Prop),
  (∃ y46 : (Int → Nat),
  ((y45 (0 : Int)) ∧
  (∀ z47 : Int,
  ((y45 z47) →
  ((((decide (z47 < ((List.length y24) : Int))) = true) →
   (Need (((0 : Int) ≤ z47) ∧ (z47 < ((List.length y24) : Int))) ∧
   (Need (((0 : Int) ≤ z47) ∧ (z47 < ((List.length y28) : Int))) ∧
   ((((decide ((List.getD y24 (Int.toNat z47) ((0 : Int), (([] : List Int), (((0 : Int), ((0 : Int), ())), ())))).1 ≠ (List.getD y28 (Int.toNat z47) ((0 : Int), (([] : List Int), (((0 : Int), ((0 : Int), ())), ())))).1)) = true) →
    (Q (.tv [] .bool false) [])) ∧
   (((decide ((List.getD y24 (Int.toNat z47) ((0 : Int), (([] : List Int), (((0 : Int), ((0 : Int), ())), ())))).1 ≠ (List.getD y28 (Int.toNat z47) ((0 : Int), (([] : List Int), (((0 : Int), ((0 : Int), ())), ())))).1)) = false) →
   (Need (((0 : Int) ≤ z47) ∧ (z47 < ((List.length y24) : Int))) ∧
   (Need (((0 : Int) ≤ z47) ∧ (z47 < ((List.length y28) : Int))) ∧
   ((((!(decide ((List.getD y24 (Int.toNat z47) ((0 : Int), (([] : List Int), (((0 : Int), ((0 : Int), ())), ())))).2.1 = (List.getD y28 (Int.toNat z47) ((0 : Int), (([] : List Int), (((0 : Int), ((0 : Int), ())), ())))).2.1))) = true) →
    (Q (.tv [] .bool false) [])) ∧
   (((!(decide ((List.getD y24 (Int.toNat z47) ((0 : Int), (([] : List Int), (((0 : Int), ((0 : Int), ())), ())))).2.1 = (List.getD y28 (Int.toNat z47) ((0 : Int), (([] : List Int), (((0 : Int), ((0 : Int), ())), ())))).2.1))) = false) →
   (Need (((-9223372036854775808 : Int) ≤ (z47 + (1 : Int))) ∧ ((z47 + (1 : Int)) ≤ (9223372036854775807 : Int))) ∧
   (Need (((y29, ((y30, (y31, ())), ())) = (y29, ((y30, (y31, ())), ()))) ∧ ((y25, ((y26, (y27, ())), ())) = (y25, ((y26, (y27, ())), ())))) ∧
   ((y45 (z47 + (1 : Int))) ∧
   Need ((y46 (z47 + (1 : Int))) < (y46 z47)))))))))))))) ∧
  (((decide (z47 < ((List.length y24) : Int))) = false) →
  (Q (.tv [] .bool y0) []))))))))))))))))) ∧
 (((decide (y25 ≠ (0 : Int))) = false) →
 ((((decide (y25 ≠ (0 : Int))) = true) →
  (Q (.tv [] .bool y0) [])) ∧
 (((decide (y25 ≠ (0 : Int))) = false) →
 ((((decide (y29 ≠ (0 : Int))) = true) →
  (Q (.tv [] .bool false) [])) ∧
 (((decide (y29 ≠ (0 : Int))) = false) →
 ((((decide (((List.length y24) : Int) ≠ ((List.length y28) : Int))) = true) →
  (Q (.tv [] .bool false) [])) ∧
 (((decide (((List.length y24) : Int) ≠ ((List.length y28) : Int))) = false) →
 (∃ y62 : (Int → Prop),
 (∃ y63 : (Int → Nat),
 ((y62 (0 : Int)) ∧
 (∀ z64 : Int,
 ((y62 z64) →
 ((((decide (z64 < ((List.length y24) : Int))) = true) →
  (Need (((0 : Int) ≤ z64) ∧ (z64 < ((List.length y24) : Int))) ∧
  (Need (((0 : Int) ≤ z64) ∧ (z64 < ((List.length y28) : Int))) ∧
  ((((decide ((List.getD y24 (Int.toNat z64) ((0 : Int), (([] : List Int), (((0 : Int), ((0 : Int), ())), ())))).1 ≠ (List.getD y28 (Int.toNat z64) ((0 : Int), (([] : List Int), (((0 : Int), ((0 : Int), ())), ())))).1)) = true) →
   (Q (.tv [] .bool false) [])) ∧
  (((decide ((List.getD y24 (Int.toNat z64) ((0 : Int), (([] : List Int), (((0 : Int), ((0 : Int), ())), ())))).1 ≠ (List.getD y28 (Int.toNat z64) ((0 : Int), (([] : List Int), (((0 : Int), ((0 : Int), ())), ())))).1)) = false) →
  (Need (((0 : Int) ≤ z64) ∧ (z64 < ((List.length y24) : Int))) ∧
  (Need (((0 : Int) ≤ z64) ∧ (z64 < ((List.length y28) : Int))) ∧
  ((((!(decide ((List.getD y24 (Int.toNat z64) ((0 : Int), (([] : List Int), (((0 : Int), ((0 : Int), ())), ())))).2.1 = (List.getD y28 (Int.toNat z64) ((0 : Int), (([] : List Int), (((0 : Int), ((0 : Int), ())), ())))).2.1))) = true) →
   (Q (.tv [] .bool false) [])) ∧
  (((!(decide ((List.getD y24 (Int.toNat z64) ((0 : Int), (([] : List Int), (((0 : Int), ((0 : Int), ())), ())))).2.1 = (List.getD y28 (Int.toNat z64) ((0 : Int), (([] : List Int), (((0 : Int), ((0 : Int), ())), ())))).2.1))) = false) →
  (Need (((-9223372036854775808 : Int) ≤ (z64 + (1 : Int))) ∧ ((z64 + (1 : Int)) ≤ (9223372036854775807 : Int))) ∧
  (Need (((y29, ((y30, (y31, ())), ())) = (y29, ((y30, (y31, ())), ()))) ∧ ((y25, ((y26, (y27, ())), ())) = (y25, ((y26, (y27, ())), ())))) ∧
  ((y62 (z64 + (1 : Int))) ∧
  Need ((y63 (z64 + (1 : Int))) < (y63 z64)))))))))))))) ∧
 (((decide (z64 < ((List.length y24) : Int))) = false) →
 (Q (.tv [] .bool y0) []))))))))))))))))))))))))))))))))))))))))))))))))))))))))))) : EvF PP orc 5 [.tv [] .str x0, .tv [] (.int .i64) x1, .tv [] .str x2] [] Q := vcF_ok (sg := sg) (Eq.mp (by kernel_rfl) h)
end Go.Am.L
