/-
  A part of the proof of a law: see the text that states it.
-/
import Derived.Test.YtlndoebddndlmaaDoorHead
set_option linter.all false
namespace Go.Am.R
open Go
set_option maxRecDepth 100000
set_option maxHeartbeats 4000000
/-- tronage/tronageref20.Most -/
theorem vc17 (x0 : XT) (Q : AV → Heap → Prop) (h :
((((decide ((XT.kind x0) = (2 : Int))) = true) →
  (∃ y1 : (Int → (Int → Prop)),
  (∃ y2 : (Int → (Int → Nat)),
  ((y1 (max (0 : Int) (XT.num x0)) (0 : Int)) ∧
  (∀ z3 : Int,
  (∀ z4 : Int,
  ((y1 z3 z4) →
  ((((decide (z4 < ((List.length (XT.kids x0)) : Int))) = true) →
   (Need (((0 : Int) ≤ z4) ∧ (z4 < ((List.length (XT.kids x0)) : Int))) ∧
   (∃ y7 : Int,
   (Need (E 17 [(.tv [] .expr (List.getD (XT.kids x0) (Int.toNat z4) (XT.mk (0 : Int) (0 : Int) [])))] [] (.tv [] (.int .i64) y7) []) ∧
   (Need (((-9223372036854775808 : Int) ≤ (z4 + (1 : Int))) ∧ ((z4 + (1 : Int)) ≤ (9223372036854775807 : Int))) ∧
   (Need (x0 = x0) ∧
   ((y1 (max z3 y7) (z4 + (1 : Int))) ∧
   Need ((y2 (max z3 y7) (z4 + (1 : Int))) < (y2 z3 z4))))))))) ∧
  (((decide (z4 < ((List.length (XT.kids x0)) : Int))) = false) →
  (Q (.tv [] (.int .i64) z3) [])))))))))) ∧
 (((decide ((XT.kind x0) = (2 : Int))) = false) →
 ((((decide ((XT.kind x0) = (3 : Int))) = true) →
  (∃ y11 : (Int → (Int → Prop)),
  (∃ y12 : (Int → (Int → Nat)),
  ((y11 (max (0 : Int) (XT.num x0)) (0 : Int)) ∧
  (∀ z13 : Int,
  (∀ z14 : Int,
  ((y11 z13 z14) →
  ((((decide (z14 < ((List.length (XT.kids x0)) : Int))) = true) →
   (Need (((0 : Int) ≤ z14) ∧ (z14 < ((List.length (XT.kids x0)) : Int))) ∧
   (∃ y17 : Int,
   (Need (E 17 [(.tv [] .expr (List.getD (XT.kids x0) (Int.toNat z14) (XT.mk (0 : Int) (0 : Int) [])))] [] (.tv [] (.int .i64) y17) []) ∧
   (Need (((-9223372036854775808 : Int) ≤ (z14 + (1 : Int))) ∧ ((z14 + (1 : Int)) ≤ (9223372036854775807 : Int))) ∧
   (Need (x0 = x0) ∧
   ((y11 (max z13 y17) (z14 + (1 : Int))) ∧
   Need ((y12 (max z13 y17) (z14 + (1 : Int))) < (y12 z13 z14))))))))) ∧
  (((decide (z14 < ((List.length (XT.kids x0)) : Int))) = false) →
  (Q (.tv [] (.int .i64) z13) [])))))))))) ∧
 (((decide ((XT.kind x0) = (3 : Int))) = false) →
 (∃ y20 : (Int → (Int → Prop)),
 (∃ y21 : (Int → (Int → Nat)),
 ((y20 (0 : Int) (0 : Int)) ∧
 (∀ z22 : Int,
 (∀ z23 : Int,
 ((y20 z22 z23) →
 ((((decide (z23 < ((List.length (XT.kids x0)) : Int))) = true) →
  (Need (((0 : Int) ≤ z23) ∧ (z23 < ((List.length (XT.kids x0)) : Int))) ∧
  (∃ y26 : Int,
  (Need (E 17 [(.tv [] .expr (List.getD (XT.kids x0) (Int.toNat z23) (XT.mk (0 : Int) (0 : Int) [])))] [] (.tv [] (.int .i64) y26) []) ∧
  (Need (((-9223372036854775808 : Int) ≤ (z23 + (1 : Int))) ∧ ((z23 + (1 : Int)) ≤ (9223372036854775807 : Int))) ∧
  (Need (x0 = x0) ∧
  ((y20 (max z22 y26) (z23 + (1 : Int))) ∧
  Need ((y21 (max z22 y26) (z23 + (1 : Int))) < (y21 z22 z23))))))))) ∧
 (((decide (z23 < ((List.length (XT.kids x0)) : Int))) = false) →
 (Q (.tv [] (.int .i64) z22) [])))))))))))))) : EvF PP orc 17 [.tv [] .expr x0] [] Q := vcF_ok (sg := sg) (Eq.mp (by kernel_rfl) h)
/-- tronage/tronageref20.Same -/
theorem vc18 (x0 : XT) (x1 : XT) (Q : AV → Heap → Prop) (h :
((((decide ((XT.kind x0) ≠ (XT.kind x1))) = true) →
  (Q (.tv [] .bool false) [])) ∧
 (((decide ((XT.kind x0) ≠ (XT.kind x1))) = false) →
 ((((decide ((XT.num x0) ≠ (XT.num x1))) = true) →
  (Q (.tv [] .bool false) [])) ∧
 (((decide ((XT.num x0) ≠ (XT.num x1))) = false) →
 ((((decide (((List.length (XT.kids x0)) : Int) ≠ ((List.length (XT.kids x1)) : Int))) = true) →
  (Q (.tv [] .bool false) [])) ∧
 (((decide (((List.length (XT.kids x0)) : Int) ≠ ((List.length (XT.kids x1)) : Int))) = false) →
 (∃ y6 : (Int → Prop),
 (∃ y7 : (Int → Nat),
 ((y6 (0 : Int)) ∧
 (∀ z8 : Int,
 ((y6 z8) →
 ((((decide (z8 < ((List.length (XT.kids x0)) : Int))) = true) →
  (Need (((0 : Int) ≤ z8) ∧ (z8 < ((List.length (XT.kids x0)) : Int))) ∧
  (Need (((0 : Int) ≤ z8) ∧ (z8 < ((List.length (XT.kids x1)) : Int))) ∧
  (∃ y11 : Bool,
  (Need (E 18 [(.tv [] .expr (List.getD (XT.kids x0) (Int.toNat z8) (XT.mk (0 : Int) (0 : Int) []))), (.tv [] .expr (List.getD (XT.kids x1) (Int.toNat z8) (XT.mk (0 : Int) (0 : Int) [])))] [] (.tv [] .bool y11) []) ∧
  ((((!y11) = true) →
   (Q (.tv [] .bool false) [])) ∧
  (((!y11) = false) →
  (Need (((-9223372036854775808 : Int) ≤ (z8 + (1 : Int))) ∧ ((z8 + (1 : Int)) ≤ (9223372036854775807 : Int))) ∧
  (Need ((x1 = x1) ∧ (x0 = x0)) ∧
  ((y6 (z8 + (1 : Int))) ∧
  Need ((y7 (z8 + (1 : Int))) < (y7 z8)))))))))))) ∧
 (((decide (z8 < ((List.length (XT.kids x0)) : Int))) = false) →
 (Q (.tv [] .bool true) []))))))))))))))) : EvF PP orc 18 [.tv [] .expr x0, .tv [] .expr x1] [] Q := vcF_ok (sg := sg) (Eq.mp (by kernel_rfl) h)
/-- tronage/tronageref20.Size -/
theorem vc19 (x0 : XT) (Q : AV → Heap → Prop) (h :
((((decide ((XT.kind x0) = (0 : Int))) = true) →
  (Q (.tv [] (.int .i64) (0 : Int)) [])) ∧
 (((decide ((XT.kind x0) = (0 : Int))) = false) →
 (∃ y2 : (Int → (Int → Prop)),
 (∃ y3 : (Int → (Int → Nat)),
 ((y2 (1 : Int) (0 : Int)) ∧
 (∀ z4 : Int,
 (∀ z5 : Int,
 ((y2 z4 z5) →
 ((((decide (z5 < ((List.length (XT.kids x0)) : Int))) = true) →
  (Need (((0 : Int) ≤ z5) ∧ (z5 < ((List.length (XT.kids x0)) : Int))) ∧
  (∃ y8 : Int,
  (Need (E 19 [(.tv [] .expr (List.getD (XT.kids x0) (Int.toNat z5) (XT.mk (0 : Int) (0 : Int) [])))] [] (.tv [] (.int .i64) y8) []) ∧
  (Need (((-9223372036854775808 : Int) ≤ (z4 + y8)) ∧ ((z4 + y8) ≤ (9223372036854775807 : Int))) ∧
  (Need (((-9223372036854775808 : Int) ≤ (z5 + (1 : Int))) ∧ ((z5 + (1 : Int)) ≤ (9223372036854775807 : Int))) ∧
  (Need (x0 = x0) ∧
  ((y2 (z4 + y8) (z5 + (1 : Int))) ∧
  Need ((y3 (z4 + y8) (z5 + (1 : Int))) < (y3 z4 z5)))))))))) ∧
 (((decide (z5 < ((List.length (XT.kids x0)) : Int))) = false) →
 (Q (.tv [] (.int .i64) z4) [])))))))))))) : EvF PP orc 19 [.tv [] .expr x0] [] Q := vcF_ok (sg := sg) (Eq.mp (by kernel_rfl) h)
/-- tronage/tronagelaw21.CodeBack -/
theorem vc5 (x0 : XT) (x1 : Int) (Q : AV → Heap → Prop) (h :
(∃ y0 : Bool,
 (Need (E 9 [] [] (.tv [] .bool y0) []) ∧
 (∃ y1 : Int,
 (Need (E 10 [(.tv [] .expr x0), (.tv [] (.int .i64) (60 : Int)), (.tv [] (.int .i64) (30 : Int))] [] (.tv [] (.int .i64) y1) []) ∧
 ((((decide (y1 < (0 : Int))) = true) →
  (Q (.tv [] .bool y0) [])) ∧
 (((decide (y1 < (0 : Int))) = false) →
 (∃ y4 : Bool,
 (Need (E 15 [(.tv [] .expr x0)] [] (.tv [] .bool y4) []) ∧
 ((((!y4) = true) →
  (Q (.tv [] .bool y0) [])) ∧
 (((!y4) = false) →
 (∃ y7 : (List (Prod Int (Prod Int PUnit))),
 (Need (E 12 [(.tv [] .expr x0)] [] (.tv [[]] (.slice (.pair (.int .i64) (.pair (.int .i64) .unit))) y7) []) ∧
 (∃ y8 : Int,
 (∃ y9 : Int,
 (Need (E 14 [(.tv [] (.slice (.pair (.int .i64) (.pair (.int .i64) .unit))) y7), (.tv [] (.int .i64) x1)] [] (.tup [(.tv [] (.int .i64) y8), (.tv [] (.int .i64) y9)]) []) ∧
 (∃ y10 : (Bool → (Int → Prop)),
 (∃ y11 : (Bool → (Int → Nat)),
 ((y10 false (0 : Int)) ∧
 (∀ z12 : Bool,
 (∀ z13 : Int,
 ((y10 z12 z13) →
 ((((decide (z13 < ((List.length y7) : Int))) = true) →
  (((z12 = true) →
   (Need (((-9223372036854775808 : Int) ≤ (z13 + (1 : Int))) ∧ ((z13 + (1 : Int)) ≤ (9223372036854775807 : Int))) ∧
   (Need (x0 = x0) ∧
   ((y10 true (z13 + (1 : Int))) ∧
   Need ((y11 true (z13 + (1 : Int))) < (y11 z12 z13)))))) ∧
  ((z12 = false) →
  (Need (((0 : Int) ≤ z13) ∧ (z13 < ((List.length y7) : Int))) ∧
  ((((decide ((List.getD y7 (Int.toNat z13) ((0 : Int), ((0 : Int), ()))).1 = (2 : Int))) = true) →
   (Need (((0 : Int) ≤ z13) ∧ (z13 < ((List.length y7) : Int))) ∧
   (Need (((-9223372036854775808 : Int) ≤ (z13 + (1 : Int))) ∧ ((z13 + (1 : Int)) ≤ (9223372036854775807 : Int))) ∧
   (Need (x0 = x0) ∧
   ((y10 (decide ((List.getD y7 (Int.toNat z13) ((0 : Int), ((0 : Int), ()))).2.1 = (0 : Int))) (z13 + (1 : Int))) ∧
   Need ((y11 (decide ((List.getD y7 (Int.toNat z13) ((0 : Int), ((0 : Int), ()))).2.1 = (0 : Int))) (z13 + (1 : Int))) < (y11 z12 z13))))))) ∧
  (((decide ((List.getD y7 (Int.toNat z13) ((0 : Int), ((0 : Int), ()))).1 = (2 : Int))) = false) →
  (Need (((0 : Int) ≤ z13) ∧ (z13 < ((List.length y7) : Int))) ∧
  ((((decide ((List.getD y7 (Int.toNat z13) ((0 : Int), ((0 : Int), ()))).1 = (3 : Int))) = true) →
   (Need (((0 : Int) ≤ z13) ∧ (z13 < ((List.length y7) : Int))) ∧
   (Need (((-9223372036854775808 : Int) ≤ (z13 + (1 : Int))) ∧ ((z13 + (1 : Int)) ≤ (9223372036854775807 : Int))) ∧
   (Need (x0 = x0) ∧
   ((y10 (decide ((List.getD y7 (Int.toNat z13) ((0 : Int), ((0 : Int), ()))).2.1 = (0 : Int))) (z13 + (1 : Int))) ∧
   Need ((y11 (decide ((List.getD y7 (Int.toNat z13) ((0 : Int), ((0 : Int), ()))).2.1 = (0 : Int))) (z13 + (1 : Int))) < (y11 z12 z13))))))) ∧
  (((decide ((List.getD y7 (Int.toNat z13) ((0 : Int), ((0 : Int), ()))).1 = (3 : Int))) = false) →
  (Need (((-9223372036854775808 : Int) ≤ (z13 + (1 : Int))) ∧ ((z13 + (1 : Int)) ≤ (9223372036854775807 : Int))) ∧
  (Need (x0 = x0) ∧
  ((y10 false (z13 + (1 : Int))) ∧
  Need ((y11 false (z13 + (1 : Int))) < (y11 z12 z13)))))))))))))) ∧
 (((decide (z13 < ((List.length y7) : Int))) = false) →
 (∃ y23 : XT,
 (∃ y24 : Bool,
 (Need (E 16 [(.tv [] (.slice (.pair (.int .i64) (.pair (.int .i64) .unit))) y7)] [] (.tup [(.tv [] .expr y23), (.tv [] .bool y24)]) []) ∧
 ((((!z12) = true) →
  (∃ y26 : Int,
  (Need (E 17 [(.tv [] .expr x0)] [] (.tv [] (.int .i64) y26) []) ∧
  (((y0 = true) →
   ((((BEq.beq (decide (y9 = (0 : Int))) (decide (y26 ≤ (max x1 (0 : Int))))) = true) →
    (((y24 = true) →
     (∃ y30 : Bool,
     (Need (E 18 [(.tv [] .expr x0), (.tv [] .expr y23)] [] (.tv [] .bool y30) []) ∧
     (((y30 = true) →
      (∃ y32 : Int,
      (Need (E 19 [(.tv [] .expr x0)] [] (.tv [] (.int .i64) y32) []) ∧
      ((((decide (((List.length y7) : Int) = y32)) = true) →
       (∃ y34 : Int,
       (Need (E 20 [(.tv [] (.slice (.pair (.int .i64) (.pair (.int .i64) .unit))) y7)] [] (.tv [] (.int .i64) y34) []) ∧
       (Q (.tv [] .bool (decide (y34 ≤ ((List.length y7) : Int)))) [])))) ∧
      (((decide (((List.length y7) : Int) = y32)) = false) →
      (Q (.tv [] .bool false) [])))))) ∧
     ((y30 = false) →
     (Q (.tv [] .bool false) [])))))) ∧
    ((y24 = false) →
    (Q (.tv [] .bool false) [])))) ∧
   (((BEq.beq (decide (y9 = (0 : Int))) (decide (y26 ≤ (max x1 (0 : Int))))) = false) →
   (Q (.tv [] .bool false) [])))) ∧
  ((y0 = false) →
  (Q (.tv [] .bool false) [])))))) ∧
 (((!z12) = false) →
 (((y0 = true) →
  ((((BEq.beq (decide (y9 = (0 : Int))) false) = true) →
   (((y24 = true) →
    (∃ y44 : Bool,
    (Need (E 18 [(.tv [] .expr x0), (.tv [] .expr y23)] [] (.tv [] .bool y44) []) ∧
    (((y44 = true) →
     (∃ y46 : Int,
     (Need (E 19 [(.tv [] .expr x0)] [] (.tv [] (.int .i64) y46) []) ∧
     ((((decide (((List.length y7) : Int) = y46)) = true) →
      (∃ y48 : Int,
      (Need (E 20 [(.tv [] (.slice (.pair (.int .i64) (.pair (.int .i64) .unit))) y7)] [] (.tv [] (.int .i64) y48) []) ∧
      (Q (.tv [] .bool (decide (y48 ≤ ((List.length y7) : Int)))) [])))) ∧
     (((decide (((List.length y7) : Int) = y46)) = false) →
     (Q (.tv [] .bool false) [])))))) ∧
    ((y44 = false) →
    (Q (.tv [] .bool false) [])))))) ∧
   ((y24 = false) →
   (Q (.tv [] .bool false) [])))) ∧
  (((BEq.beq (decide (y9 = (0 : Int))) false) = false) →
  (Q (.tv [] .bool false) [])))) ∧
 ((y0 = false) →
 (Q (.tv [] .bool false) [])))))))))))))))))))))))))))))))) : EvF PP orc 5 [.tv [] .expr x0, .tv [] (.int .i64) x1] [] Q := vcF_ok (sg := sg) (Eq.mp (by kernel_rfl) h)
/-- tronage/tronagelaw21.CodeOnly -/
theorem vc6 (x0 : List ((Int × (Int × Unit)))) (x1 : Int) (Q : AV → Heap → Prop) (h :
(∃ y0 : Bool,
 (Need (E 9 [] [] (.tv [] .bool y0) []) ∧
 ((((decide ((60 : Int) < ((List.length x0) : Int))) = true) →
  (Q (.tv [] .bool y0) [])) ∧
 (((decide ((60 : Int) < ((List.length x0) : Int))) = false) →
 (∃ y3 : Int,
 (∃ y4 : Int,
 (Need (E 14 [(.tv [] (.slice (.pair (.int .i64) (.pair (.int .i64) .unit))) x0), (.tv [] (.int .i64) x1)] [] (.tup [(.tv [] (.int .i64) y3), (.tv [] (.int .i64) y4)]) []) ∧
 (∃ y5 : XT,
 (∃ y6 : Bool,
 (Need (E 16 [(.tv [] (.slice (.pair (.int .i64) (.pair (.int .i64) .unit))) x0)] [] (.tup [(.tv [] .expr y5), (.tv [] .bool y6)]) []) ∧
 ((((decide (y4 = (0 : Int))) = true) →
  ((((!y6) = true) →
   (Q (.tv [] .bool false) [])) ∧
  (((!y6) = false) →
  ((((!y6) = true) →
   (((y0 = true) →
    (∃ y12 : Bool,
    (Need (E 18 [(.tv [] .expr y5), (.tv [] .expr (XT.mk (0 : Int) (0 : Int) []))] [] (.tv [] .bool y12) []) ∧
    (Q (.tv [] .bool y12) [])))) ∧
   ((y0 = false) →
   (Q (.tv [] .bool false) [])))) ∧
  (((!y6) = false) →
  (((y0 = true) →
   (∃ y16 : Bool,
   (Need (E 15 [(.tv [] .expr y5)] [] (.tv [] .bool y16) []) ∧
   (((y16 = true) →
    (∃ y18 : (List (Prod Int (Prod Int PUnit))),
    (Need (E 12 [(.tv [] .expr y5)] [] (.tv [[]] (.slice (.pair (.int .i64) (.pair (.int .i64) .unit))) y18) []) ∧
    (∃ y19 : Bool,
    (Need (E 11 [(.tv [] (.slice (.pair (.int .i64) (.pair (.int .i64) .unit))) y18), (.tv [] (.slice (.pair (.int .i64) (.pair (.int .i64) .unit))) x0)] [] (.tv [] .bool y19) []) ∧
    (Q (.tv [] .bool y19) [])))))) ∧
   ((y16 = false) →
   (Q (.tv [] .bool false) [])))))) ∧
  ((y0 = false) →
  (Q (.tv [] .bool false) [])))))))) ∧
 (((decide (y4 = (0 : Int))) = false) →
 ((((!y6) = true) →
  (((y0 = true) →
   (∃ y25 : Bool,
   (Need (E 18 [(.tv [] .expr y5), (.tv [] .expr (XT.mk (0 : Int) (0 : Int) []))] [] (.tv [] .bool y25) []) ∧
   (Q (.tv [] .bool y25) [])))) ∧
  ((y0 = false) →
  (Q (.tv [] .bool false) [])))) ∧
 (((!y6) = false) →
 (((y0 = true) →
  (∃ y29 : Bool,
  (Need (E 15 [(.tv [] .expr y5)] [] (.tv [] .bool y29) []) ∧
  (((y29 = true) →
   (∃ y31 : (List (Prod Int (Prod Int PUnit))),
   (Need (E 12 [(.tv [] .expr y5)] [] (.tv [[]] (.slice (.pair (.int .i64) (.pair (.int .i64) .unit))) y31) []) ∧
   (∃ y32 : Bool,
   (Need (E 11 [(.tv [] (.slice (.pair (.int .i64) (.pair (.int .i64) .unit))) y31), (.tv [] (.slice (.pair (.int .i64) (.pair (.int .i64) .unit))) x0)] [] (.tv [] .bool y32) []) ∧
   (Q (.tv [] .bool y32) [])))))) ∧
  ((y29 = false) →
  (Q (.tv [] .bool false) [])))))) ∧
 ((y0 = false) →
 (Q (.tv [] .bool false) [])))))))))))))))))) : EvF PP orc 6 [.tv [] (.slice (.pair (.int .i64) (.pair (.int .i64) .unit))) x0, .tv [] (.int .i64) x1] [] Q := vcF_ok (sg := sg) (Eq.mp (by kernel_rfl) h)
end Go.Am.R
