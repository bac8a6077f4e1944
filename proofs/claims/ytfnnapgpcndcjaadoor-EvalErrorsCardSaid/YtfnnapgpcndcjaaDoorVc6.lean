/-
  A part of the proof of a law: see the text that states it.
-/
import Derived.Test.YtfnnapgpcndcjaaDoorHead
set_option linter.all false
namespace Go.Am.V
open Go
set_option maxRecDepth 100000
set_option maxHeartbeats 4000000
/-- tronage/tronagelaw22.EvalLeaves -/
theorem vc3 (x0 : List Int) (Q : AV → Heap → Prop) (h :
(∃ y0 : Bool,
 (Need (E 7 [] [] (.tv [] .bool y0) []) ∧
 ((((decide ((100 : Int) < ((List.length x0) : Int))) = true) →
  (Q (.tv [] .bool y0) [])) ∧
 (((decide ((100 : Int) < ((List.length x0) : Int))) = false) →
 (((y0 = true) →
  (∃ y4 : Int,
  (∃ y5 : Int,
  (Need (E 8 [(.tv [] .str x0)] [] (.tv [] (.pair (.int .i64) (.pair (.int .i64) .unit)) (y4, (y5, ()))) []) ∧
  (∃ y6 : Int,
  (∃ y7 : Int,
  (Need (E 9 [(.tv [] .str x0)] [] (.tv [] (.pair (.int .i64) (.pair (.int .i64) .unit)) (y6, (y7, ()))) []) ∧
  (Q (.tv [] .bool ((decide (y4 = y6)) && ((decide (y5 = y7)) && true))) [])))))))) ∧
 ((y0 = false) →
 (Q (.tv [] .bool false) [])))))))) : EvF PP orc 3 [.tv [] .str x0] [] Q := vcF_ok (sg := sg) (Eq.mp (by kernel_rfl) h)
/-- tronage/tronagelaw22.EvalMeans -/
theorem vc4 (x0 : XT) (x1 : List ((Int × (Int × Unit)))) (x2 : List (Int)) (Q : AV → Heap → Prop) (h :
(∃ y0 : Bool,
 (Need (E 7 [] [] (.tv [] .bool y0) []) ∧
 (∃ y1 : Int,
 (Need (E 10 [(.tv [] .expr x0), (.tv [] (.int .i64) (60 : Int)), (.tv [] (.int .i64) (30 : Int))] [] (.tv [] (.int .i64) y1) []) ∧
 ((((decide (y1 < (0 : Int))) = true) →
  (Q (.tv [] .bool y0) [])) ∧
 (((decide (y1 < (0 : Int))) = false) →
 ((((decide ((10 : Int) < ((List.length x1) : Int))) = true) →
  (Q (.tv [] .bool y0) [])) ∧
 (((decide ((10 : Int) < ((List.length x1) : Int))) = false) →
 ((((decide ((10 : Int) < ((List.length x2) : Int))) = true) →
  (Q (.tv [] .bool y0) [])) ∧
 (((decide ((10 : Int) < ((List.length x2) : Int))) = false) →
 (((y0 = true) →
  (∃ y9 : (List (Prod Int (Prod Int PUnit))),
  (Need (E 12 [(.tv [] .expr x0)] [] (.tv [[]] (.slice (.pair (.int .i64) (.pair (.int .i64) .unit))) y9) []) ∧
  (∃ y10 : Int,
  (∃ y11 : Int,
  (Need (E 11 [(.tv [] (.slice (.pair (.int .i64) (.pair (.int .i64) .unit))) y9), (.tv [] (.slice (.pair (.int .i64) (.pair (.int .i64) .unit))) x1), (.tv [] (.slice (.int .i64)) x2)] [] (.tv [] (.pair (.int .i64) (.pair (.int .i64) .unit)) (y10, (y11, ()))) []) ∧
  (∃ y12 : Int,
  (∃ y13 : Int,
  (Need (E 13 [(.tv [] .expr x0), (.tv [] (.slice (.pair (.int .i64) (.pair (.int .i64) .unit))) x1), (.tv [] (.slice (.int .i64)) x2)] [] (.tv [] (.pair (.int .i64) (.pair (.int .i64) .unit)) (y12, (y13, ()))) []) ∧
  (Q (.tv [] .bool ((decide (y10 = y12)) && ((decide (y11 = y13)) && true))) [])))))))))) ∧
 ((y0 = false) →
 (Q (.tv [] .bool false) [])))))))))))))) : EvF PP orc 4 [.tv [] .expr x0, .tv [] (.slice (.pair (.int .i64) (.pair (.int .i64) .unit))) x1, .tv [] (.slice (.int .i64)) x2] [] Q := vcF_ok (sg := sg) (Eq.mp (by kernel_rfl) h)
/-- tronage/tronagelaw22.EvalOps -/
theorem vc5 (x0 : List ((Int × (Int × Unit)))) (x1 : List ((Int × (Int × Unit)))) (x2 : List (Int)) (Q : AV → Heap → Prop) (h :
(∃ y0 : Bool,
 (Need (E 7 [] [] (.tv [] .bool y0) []) ∧
 ((((decide ((60 : Int) < ((List.length x0) : Int))) = true) →
  (Q (.tv [] .bool y0) [])) ∧
 (((decide ((60 : Int) < ((List.length x0) : Int))) = false) →
 ((((decide ((10 : Int) < ((List.length x1) : Int))) = true) →
  (Q (.tv [] .bool y0) [])) ∧
 (((decide ((10 : Int) < ((List.length x1) : Int))) = false) →
 ((((decide ((10 : Int) < ((List.length x2) : Int))) = true) →
  (Q (.tv [] .bool y0) [])) ∧
 (((decide ((10 : Int) < ((List.length x2) : Int))) = false) →
 (∃ y7 : Int,
 (∃ y8 : Int,
 (Need (E 11 [(.tv [] (.slice (.pair (.int .i64) (.pair (.int .i64) .unit))) x0), (.tv [] (.slice (.pair (.int .i64) (.pair (.int .i64) .unit))) x1), (.tv [] (.slice (.int .i64)) x2)] [] (.tv [] (.pair (.int .i64) (.pair (.int .i64) .unit)) (y7, (y8, ()))) []) ∧
 (∃ y9 : Int,
 (∃ y10 : Int,
 (Need (E 14 [(.tv [] (.slice (.pair (.int .i64) (.pair (.int .i64) .unit))) x0), (.tv [] (.int .i64) ((List.length x1) : Int))] [] (.tup [(.tv [] (.int .i64) y9), (.tv [] (.int .i64) y10)]) []) ∧
 ((((decide (y10 ≠ (0 : Int))) = true) →
  (((y0 = true) →
   (Q (.tv [] .bool ((decide (y7 = (3 : Int))) && ((decide (y8 = (31 : Int))) && true))) [])) ∧
  ((y0 = false) →
  (Q (.tv [] .bool false) [])))) ∧
 (((decide (y10 ≠ (0 : Int))) = false) →
 ((((decide (((List.length x0) : Int) = (0 : Int))) = true) →
  (((y0 = true) →
   (Q (.tv [] .bool ((decide (y7 = (3 : Int))) && ((decide (y8 = (31 : Int))) && true))) [])) ∧
  ((y0 = false) →
  (Q (.tv [] .bool false) [])))) ∧
 (((decide (((List.length x0) : Int) = (0 : Int))) = false) →
 ((((decide (((List.length x1) : Int) ≠ ((List.length x2) : Int))) = true) →
  (((y0 = true) →
   (Q (.tv [] .bool ((decide (y7 = (3 : Int))) && ((decide (y8 = (31 : Int))) && true))) [])) ∧
  ((y0 = false) →
  (Q (.tv [] .bool false) [])))) ∧
 (((decide (((List.length x1) : Int) ≠ ((List.length x2) : Int))) = false) →
 ((((decide ((1 : Int) ≤ y7)) = true) →
  (∃ y24 : (Bool → (Int → Prop)),
  (∃ y25 : (Bool → (Int → Nat)),
  ((y24 (decide (y7 ≤ (3 : Int))) (0 : Int)) ∧
  (∀ z26 : Bool,
  (∀ z27 : Int,
  ((y24 z26 z27) →
  ((((decide (z27 < ((List.length x1) : Int))) = true) →
   (((z26 = true) →
    (Need (((-9223372036854775808 : Int) ≤ (z27 + (1 : Int))) ∧ ((z27 + (1 : Int)) ≤ (9223372036854775807 : Int))) ∧
    (Need ((y7, (y8, ())) = (y7, (y8, ()))) ∧
    ((y24 true (z27 + (1 : Int))) ∧
    Need ((y25 true (z27 + (1 : Int))) < (y25 z26 z27)))))) ∧
   ((z26 = false) →
   (Need (((0 : Int) ≤ z27) ∧ (z27 < ((List.length x1) : Int))) ∧
   (Need (((-9223372036854775808 : Int) ≤ (z27 + (1 : Int))) ∧ ((z27 + (1 : Int)) ≤ (9223372036854775807 : Int))) ∧
   (Need ((y7, (y8, ())) = (y7, (y8, ()))) ∧
   ((y24 ((decide (y7 = (List.getD x1 (Int.toNat z27) ((0 : Int), ((0 : Int), ()))).1)) && ((decide (y8 = (List.getD x1 (Int.toNat z27) ((0 : Int), ((0 : Int), ()))).2.1)) && true)) (z27 + (1 : Int))) ∧
   Need ((y25 ((decide (y7 = (List.getD x1 (Int.toNat z27) ((0 : Int), ((0 : Int), ()))).1)) && ((decide (y8 = (List.getD x1 (Int.toNat z27) ((0 : Int), ((0 : Int), ()))).2.1)) && true)) (z27 + (1 : Int))) < (y25 z26 z27))))))))) ∧
  (((decide (z27 < ((List.length x1) : Int))) = false) →
  (((y0 = true) →
   (Q (.tv [] .bool z26) [])) ∧
  ((y0 = false) →
  (Q (.tv [] .bool false) [])))))))))))) ∧
 (((decide ((1 : Int) ≤ y7)) = false) →
 (∃ y36 : (Bool → (Int → Prop)),
 (∃ y37 : (Bool → (Int → Nat)),
 ((y36 false (0 : Int)) ∧
 (∀ z38 : Bool,
 (∀ z39 : Int,
 ((y36 z38 z39) →
 ((((decide (z39 < ((List.length x1) : Int))) = true) →
  (((z38 = true) →
   (Need (((-9223372036854775808 : Int) ≤ (z39 + (1 : Int))) ∧ ((z39 + (1 : Int)) ≤ (9223372036854775807 : Int))) ∧
   (Need ((y7, (y8, ())) = (y7, (y8, ()))) ∧
   ((y36 true (z39 + (1 : Int))) ∧
   Need ((y37 true (z39 + (1 : Int))) < (y37 z38 z39)))))) ∧
  ((z38 = false) →
  (Need (((0 : Int) ≤ z39) ∧ (z39 < ((List.length x1) : Int))) ∧
  (Need (((-9223372036854775808 : Int) ≤ (z39 + (1 : Int))) ∧ ((z39 + (1 : Int)) ≤ (9223372036854775807 : Int))) ∧
  (Need ((y7, (y8, ())) = (y7, (y8, ()))) ∧
  ((y36 ((decide (y7 = (List.getD x1 (Int.toNat z39) ((0 : Int), ((0 : Int), ()))).1)) && ((decide (y8 = (List.getD x1 (Int.toNat z39) ((0 : Int), ((0 : Int), ()))).2.1)) && true)) (z39 + (1 : Int))) ∧
  Need ((y37 ((decide (y7 = (List.getD x1 (Int.toNat z39) ((0 : Int), ((0 : Int), ()))).1)) && ((decide (y8 = (List.getD x1 (Int.toNat z39) ((0 : Int), ((0 : Int), ()))).2.1)) && true)) (z39 + (1 : Int))) < (y37 z38 z39))))))))) ∧
 (((decide (z39 < ((List.length x1) : Int))) = false) →
 (((y0 = true) →
  (Q (.tv [] .bool z38) [])) ∧
 ((y0 = false) →
 (Q (.tv [] .bool false) [])))))))))))))))))))))))))))))))))) : EvF PP orc 5 [.tv [] (.slice (.pair (.int .i64) (.pair (.int .i64) .unit))) x0, .tv [] (.slice (.pair (.int .i64) (.pair (.int .i64) .unit))) x1, .tv [] (.slice (.int .i64)) x2] [] Q := vcF_ok (sg := sg) (Eq.mp (by kernel_rfl) h)
/-- tronage/tronagelaw22.EvalErrors -/
theorem vc6 (x0_0 : Int) (x0_1 : Int) (x1_0 : Int) (x1_1 : Int) (x2 : Int) (Q : AV → Heap → Prop) (h :
(∃ y0 : Bool,
 (Need (E 7 [] [] (.tv [] .bool y0) []) ∧
 (Need ((5 : Int) ≠ (0 : Int)) ∧
 (Need (¬ ((IntKind.u8 = IntKind.u8) ∧ (¬ (((0 : Int) ≤ x2) ∧ ((x2 < (256 : Int)) ∧ ((0 : Int) < (5 : Int))))))) ∧
 (Need (((-9223372036854775808 : Int) ≤ (Int.tmod x2 (5 : Int))) ∧ ((Int.tmod x2 (5 : Int)) ≤ (9223372036854775807 : Int))) ∧
 (Need (((-9223372036854775808 : Int) ≤ ((5 : Int) + (Int.tmod x2 (5 : Int)))) ∧ (((5 : Int) + (Int.tmod x2 (5 : Int))) ≤ (9223372036854775807 : Int))) ∧
 (∃ y1 : Int,
 (∃ y2 : Int,
 (Need (E 11 [(.tv [] (.slice (.pair (.int .i64) (.pair (.int .i64) .unit))) [((2 : Int), ((1 : Int), ())), ((2 : Int), ((2 : Int), ())), (((5 : Int) + (Int.tmod x2 (5 : Int))), ((0 : Int), ()))]), (.tv [] (.slice (.pair (.int .i64) (.pair (.int .i64) .unit))) [(x0_0, (x0_1, ())), (x1_0, (x1_1, ()))]), (.tv [] (.slice (.int .i64)) [(0 : Int), (1 : Int)])] [] (.tv [] (.pair (.int .i64) (.pair (.int .i64) .unit)) (y1, (y2, ()))) []) ∧
 (∃ y3 : Int,
 (∃ y4 : Int,
 (Need (E 11 [(.tv [] (.slice (.pair (.int .i64) (.pair (.int .i64) .unit))) [((2 : Int), ((1 : Int), ())), ((4 : Int), ((0 : Int), ()))]), (.tv [] (.slice (.pair (.int .i64) (.pair (.int .i64) .unit))) [(x0_0, (x0_1, ()))]), (.tv [] (.slice (.int .i64)) [(0 : Int)])] [] (.tv [] (.pair (.int .i64) (.pair (.int .i64) .unit)) (y3, (y4, ()))) []) ∧
 ((((decide (x0_0 = (3 : Int))) = true) →
  (((y0 = true) →
   (((((decide (y1 = x0_0)) && ((decide (y2 = x0_1)) && true)) = true) →
    (Q (.tv [] .bool ((decide (y3 = x0_0)) && ((decide (y4 = x0_1)) && true))) [])) ∧
   ((((decide (y1 = x0_0)) && ((decide (y2 = x0_1)) && true)) = false) →
   (Q (.tv [] .bool false) [])))) ∧
  ((y0 = false) →
  (Q (.tv [] .bool false) [])))) ∧
 (((decide (x0_0 = (3 : Int))) = false) →
 ((((decide (x1_0 = (3 : Int))) = true) →
  (((y0 = true) →
   (Q (.tv [] .bool ((decide (y1 = x1_0)) && ((decide (y2 = x1_1)) && true))) [])) ∧
  ((y0 = false) →
  (Q (.tv [] .bool false) [])))) ∧
 (((decide (x1_0 = (3 : Int))) = false) →
 ((((decide (x0_0 ≠ (1 : Int))) = true) →
  (((y0 = true) →
   (((((decide (y1 = (3 : Int))) && ((decide (y2 = (33 : Int))) && true)) = true) →
    (Q (.tv [] .bool ((decide (y3 = y1)) && ((decide (y4 = y2)) && true))) [])) ∧
   ((((decide (y1 = (3 : Int))) && ((decide (y2 = (33 : Int))) && true)) = false) →
   (Q (.tv [] .bool false) [])))) ∧
  ((y0 = false) →
  (Q (.tv [] .bool false) [])))) ∧
 (((decide (x0_0 ≠ (1 : Int))) = false) →
 ((((decide (x1_0 ≠ (1 : Int))) = true) →
  (((y0 = true) →
   (((((decide (y1 = (3 : Int))) && ((decide (y2 = (33 : Int))) && true)) = true) →
    (Q (.tv [] .bool (decide (y3 = (1 : Int)))) [])) ∧
   ((((decide (y1 = (3 : Int))) && ((decide (y2 = (33 : Int))) && true)) = false) →
   (Q (.tv [] .bool false) [])))) ∧
  ((y0 = false) →
  (Q (.tv [] .bool false) [])))) ∧
 (((decide (x1_0 ≠ (1 : Int))) = false) →
 ((((decide (x1_1 = (0 : Int))) = true) →
  (Need ((5 : Int) ≠ (0 : Int)) ∧
  (Need (¬ ((IntKind.u8 = IntKind.u8) ∧ (¬ (((0 : Int) ≤ x2) ∧ ((x2 < (256 : Int)) ∧ ((0 : Int) < (5 : Int))))))) ∧
  ((((decide ((2 : Int) < (Int.tmod x2 (5 : Int)))) = true) →
   (((y0 = true) →
    (Q (.tv [] .bool ((decide (y1 = (3 : Int))) && ((decide (y2 = (32 : Int))) && true))) [])) ∧
   ((y0 = false) →
   (Q (.tv [] .bool false) [])))) ∧
  (((decide ((2 : Int) < (Int.tmod x2 (5 : Int)))) = false) →
  (((y0 = true) →
   ((((decide (y1 = (1 : Int))) = true) →
    ((((decide (y3 = (1 : Int))) = true) →
     (Q (.tv [] .bool (decide ((IntKind.wrap .i64 (y4 + x0_1)) = (0 : Int)))) [])) ∧
    (((decide (y3 = (1 : Int))) = false) →
    (Q (.tv [] .bool false) [])))) ∧
   (((decide (y1 = (1 : Int))) = false) →
   (Q (.tv [] .bool false) [])))) ∧
  ((y0 = false) →
  (Q (.tv [] .bool false) [])))))))) ∧
 (((decide (x1_1 = (0 : Int))) = false) →
 (((y0 = true) →
  ((((decide (y1 = (1 : Int))) = true) →
   ((((decide (y3 = (1 : Int))) = true) →
    (Q (.tv [] .bool (decide ((IntKind.wrap .i64 (y4 + x0_1)) = (0 : Int)))) [])) ∧
   (((decide (y3 = (1 : Int))) = false) →
   (Q (.tv [] .bool false) [])))) ∧
  (((decide (y1 = (1 : Int))) = false) →
  (Q (.tv [] .bool false) [])))) ∧
 ((y0 = false) →
 (Q (.tv [] .bool false) [])))))))))))))))))))))))))) : EvF PP orc 6 [.tv [] (.pair (.int .i64) (.pair (.int .i64) .unit)) (x0_0, (x0_1, ())), .tv [] (.pair (.int .i64) (.pair (.int .i64) .unit)) (x1_0, (x1_1, ())), .tv [] (.int .u8) x2] [] Q := vcF_ok (sg := sg) (Eq.mp (by kernel_rfl) h)
end Go.Am.V
