/-
  A part of the proof of a law: see the text that states it.
-/
import Derived.Test.YtpbabncglokikaaDoorHead
set_option linter.all false
namespace Go.Am.L
open Go
set_option maxRecDepth 100000
set_option maxHeartbeats 4000000
/-- tronage/tronageref05.At -/
theorem vc18 (x0 : List Int) (x1 : Int) (Q : AV → Heap → Prop) (h :
(∃ y0 : (Int → (Int → (Int → Prop))),
 (∃ y1 : (Int → (Int → (Int → Nat))),
 ((y0 (0 : Int) (1 : Int) (1 : Int)) ∧
 (∀ z2 : Int,
 (∀ z3 : Int,
 (∀ z4 : Int,
 ((y0 z2 z3 z4) →
 ((((decide (z2 < (max (0 : Int) (min x1 ((List.length x0) : Int))))) = true) →
  (Need (((-9223372036854775808 : Int) ≤ (z4 + (1 : Int))) ∧ ((z4 + (1 : Int)) ≤ (9223372036854775807 : Int))) ∧
  (Need (((0 : Int) ≤ z2) ∧ (z2 < ((List.length x0) : Int))) ∧
  ((((decide ((List.getD x0 (Int.toNat z2) (0 : Int)) = (10 : Int))) = true) →
   (Need (((-9223372036854775808 : Int) ≤ (z3 + (1 : Int))) ∧ ((z3 + (1 : Int)) ≤ (9223372036854775807 : Int))) ∧
   (Need (((-9223372036854775808 : Int) ≤ (z2 + (1 : Int))) ∧ ((z2 + (1 : Int)) ≤ (9223372036854775807 : Int))) ∧
   (Need (((0 : Int), ((0 : Int), ())) = ((0 : Int), ((0 : Int), ()))) ∧
   ((y0 (z2 + (1 : Int)) (z3 + (1 : Int)) (1 : Int)) ∧
   Need ((y1 (z2 + (1 : Int)) (z3 + (1 : Int)) (1 : Int)) < (y1 z2 z3 z4))))))) ∧
  (((decide ((List.getD x0 (Int.toNat z2) (0 : Int)) = (10 : Int))) = false) →
  (Need (((-9223372036854775808 : Int) ≤ (z2 + (1 : Int))) ∧ ((z2 + (1 : Int)) ≤ (9223372036854775807 : Int))) ∧
  (Need (((0 : Int), ((0 : Int), ())) = ((0 : Int), ((0 : Int), ()))) ∧
  ((y0 (z2 + (1 : Int)) z3 (z4 + (1 : Int))) ∧
  Need ((y1 (z2 + (1 : Int)) z3 (z4 + (1 : Int))) < (y1 z2 z3 z4)))))))))) ∧
 (((decide (z2 < (max (0 : Int) (min x1 ((List.length x0) : Int))))) = false) →
 (Q (.tv [] (.pair (.int .i64) (.pair (.int .i64) .unit)) (z3, (z4, ()))) []))))))))))) : EvF PP orc 18 [.tv [] .str x0, .tv [] (.int .i64) x1] [] Q := vcF_ok (sg := sg) (Eq.mp (by kernel_rfl) h)
/-- tronage/tronageref05.letter -/
theorem vc30 (x0 : Int) (Q : AV → Heap → Prop) (h :
((((decide (x0 = (95 : Int))) = true) →
  (Q (.tv [] .bool true) [])) ∧
 (((decide (x0 = (95 : Int))) = false) →
 ((((decide ((97 : Int) ≤ x0)) = true) →
  ((((decide (x0 ≤ (122 : Int))) = true) →
   (Q (.tv [] .bool true) [])) ∧
  (((decide (x0 ≤ (122 : Int))) = false) →
  ((((decide ((65 : Int) ≤ x0)) = true) →
   (Q (.tv [] .bool (decide (x0 ≤ (90 : Int)))) [])) ∧
  (((decide ((65 : Int) ≤ x0)) = false) →
  (Q (.tv [] .bool false) [])))))) ∧
 (((decide ((97 : Int) ≤ x0)) = false) →
 ((((decide ((65 : Int) ≤ x0)) = true) →
  (Q (.tv [] .bool (decide (x0 ≤ (90 : Int)))) [])) ∧
 (((decide ((65 : Int) ≤ x0)) = false) →
 (Q (.tv [] .bool false) [])))))))) : EvF PP orc 30 [.tv [] (.int .u8) x0] [] Q := vcF_ok (sg := sg) (Eq.mp (by kernel_rfl) h)
/-- tronage/tronageref05.digit -/
theorem vc31 (x0 : Int) (Q : AV → Heap → Prop) (h :
((((decide ((48 : Int) ≤ x0)) = true) →
  (Q (.tv [] .bool (decide (x0 ≤ (57 : Int)))) [])) ∧
 (((decide ((48 : Int) ≤ x0)) = false) →
 (Q (.tv [] .bool false) [])))) : EvF PP orc 31 [.tv [] (.int .u8) x0] [] Q := vcF_ok (sg := sg) (Eq.mp (by kernel_rfl) h)
/-- tronage/tronageref05.Name -/
theorem vc19 (x0 : List Int) (Q : AV → Heap → Prop) (h :
(∃ y0 : (Int → Prop),
 (∃ y1 : (Int → Nat),
 ((y0 (0 : Int)) ∧
 (∀ z2 : Int,
 ((y0 z2) →
 ((((decide (z2 < ((List.length x0) : Int))) = true) →
  (Need (((0 : Int) ≤ z2) ∧ (z2 < ((List.length x0) : Int))) ∧
  (∃ y5 : Bool,
  (Need (E 30 [(.tv [] (.int .u8) (List.getD x0 (Int.toNat z2) (0 : Int)))] [] (.tv [] .bool y5) []) ∧
  ((((!y5) = true) →
   ((((decide (z2 = (0 : Int))) = true) →
    (Q (.tv [] .bool false) [])) ∧
   (((decide (z2 = (0 : Int))) = false) →
   (Need (((0 : Int) ≤ z2) ∧ (z2 < ((List.length x0) : Int))) ∧
   (∃ y9 : Bool,
   (Need (E 31 [(.tv [] (.int .u8) (List.getD x0 (Int.toNat z2) (0 : Int)))] [] (.tv [] .bool y9) []) ∧
   ((((!y9) = true) →
    (Q (.tv [] .bool false) [])) ∧
   (((!y9) = false) →
   (Need (((-9223372036854775808 : Int) ≤ (z2 + (1 : Int))) ∧ ((z2 + (1 : Int)) ≤ (9223372036854775807 : Int))) ∧
   ((y0 (z2 + (1 : Int))) ∧
   Need ((y1 (z2 + (1 : Int))) < (y1 z2)))))))))))) ∧
  (((!y5) = false) →
  (Need (((-9223372036854775808 : Int) ≤ (z2 + (1 : Int))) ∧ ((z2 + (1 : Int)) ≤ (9223372036854775807 : Int))) ∧
  ((y0 (z2 + (1 : Int))) ∧
  Need ((y1 (z2 + (1 : Int))) < (y1 z2)))))))))) ∧
 (((decide (z2 < ((List.length x0) : Int))) = false) →
 (Q (.tv [] .bool (!(decide (x0 = [])))) []))))))))) : EvF PP orc 19 [.tv [] .str x0] [] Q := vcF_ok (sg := sg) (Eq.mp (by kernel_rfl) h)
/-- tronage/lexer.Words -/
theorem vc21  (Q : AV → Heap → Prop) (h :
(∃ y0 : (List (List Int)),
 (Need (E 32 [(.tv [] (.slice .str) L.wordsL)] [] (.tv [[]] (.slice .str) y0) []) ∧
 (Q (.tv [[]] (.slice .str) y0) [])))) : EvF PP orc 21 [] [] Q := vcF_ok (sg := sg) (Eq.mp (by kernel_rfl) h)
/-- tronage/tronageref05.Words -/
theorem vc22  (Q : AV → Heap → Prop) (h :
(Q (.tv [[]] (.slice .str) [(List.map (fun v0 => (((BitVec.toNat (UInt8.toBitVec v0)) : Nat) : Int)) [(116 : UInt8), (111 : UInt8), (107 : UInt8), (101 : UInt8), (110 : UInt8)]), (List.map (fun v1 => (((BitVec.toNat (UInt8.toBitVec v1)) : Nat) : Int)) [(115 : UInt8), (107 : UInt8), (105 : UInt8), (112 : UInt8)]), (List.map (fun v2 => (((BitVec.toNat (UInt8.toBitVec v2)) : Nat) : Int)) [(108 : UInt8), (101 : UInt8), (102 : UInt8), (116 : UInt8)]), (List.map (fun v3 => (((BitVec.toNat (UInt8.toBitVec v3)) : Nat) : Int)) [(114 : UInt8), (105 : UInt8), (103 : UInt8), (104 : UInt8), (116 : UInt8)]), (List.map (fun v4 => (((BitVec.toNat (UInt8.toBitVec v4)) : Nat) : Int)) [(110 : UInt8), (111 : UInt8), (110 : UInt8), (97 : UInt8), (115 : UInt8), (115 : UInt8), (111 : UInt8), (99 : UInt8)]), (List.map (fun v5 => (((BitVec.toNat (UInt8.toBitVec v5)) : Nat) : Int)) [(115 : UInt8), (116 : UInt8), (97 : UInt8), (114 : UInt8), (116 : UInt8)]), (List.map (fun v6 => (((BitVec.toNat (UInt8.toBitVec v6)) : Nat) : Int)) [(112 : UInt8), (114 : UInt8), (101 : UInt8), (99 : UInt8)]), (List.map (fun v7 => (((BitVec.toNat (UInt8.toBitVec v7)) : Nat) : Int)) [(37 : UInt8)])]) [])) : EvF PP orc 22 [] [] Q := vcF_ok (sg := sg) (Eq.mp (by kernel_rfl) h)
/-- tronage/tronageref05.Texts -/
theorem vc20 (x0 : List (List Int)) (x1 : List (List Int)) (Q : AV → Heap → Prop) (h :
((((decide (((List.length x0) : Int) ≠ ((List.length x1) : Int))) = true) →
  (Q (.tv [] .bool false) [])) ∧
 (((decide (((List.length x0) : Int) ≠ ((List.length x1) : Int))) = false) →
 (∃ y2 : (Int → Prop),
 (∃ y3 : (Int → Nat),
 ((y2 (0 : Int)) ∧
 (∀ z4 : Int,
 ((y2 z4) →
 ((((decide (z4 < ((List.length x0) : Int))) = true) →
  (Need (((0 : Int) ≤ z4) ∧ (z4 < ((List.length x0) : Int))) ∧
  (Need (((0 : Int) ≤ z4) ∧ (z4 < ((List.length x1) : Int))) ∧
  ((((!(decide ((List.getD x0 (Int.toNat z4) []) = (List.getD x1 (Int.toNat z4) [])))) = true) →
   (Q (.tv [] .bool false) [])) ∧
  (((!(decide ((List.getD x0 (Int.toNat z4) []) = (List.getD x1 (Int.toNat z4) [])))) = false) →
  (Need (((-9223372036854775808 : Int) ≤ (z4 + (1 : Int))) ∧ ((z4 + (1 : Int)) ≤ (9223372036854775807 : Int))) ∧
  ((y2 (z4 + (1 : Int))) ∧
  Need ((y3 (z4 + (1 : Int))) < (y3 z4))))))))) ∧
 (((decide (z4 < ((List.length x0) : Int))) = false) →
 (Q (.tv [] .bool true) []))))))))))) : EvF PP orc 20 [.tv [] (.slice .str) x0, .tv [] (.slice .str) x1] [] Q := vcF_ok (sg := sg) (Eq.mp (by kernel_rfl) h)
/-- tronage/tronagelaw05.LexerPlaces -/
theorem vc9 (x0 : List Int) (x1 : Int) (Q : AV → Heap → Prop) (h :
(∃ y0 : Bool,
 (Need (E 10 [] [] (.tv [] .bool y0) []) ∧
 ((((decide ((600 : Int) < ((List.length x0) : Int))) = true) →
  (Q (.tv [] .bool y0) [])) ∧
 (((decide ((600 : Int) < ((List.length x0) : Int))) = false) →
 (∃ y3 : Int,
 (∃ y4 : Int,
 (Need (E 16 [(.tv [] .str x0), (.tv [] (.int .i64) x1)] [] (.tv [] (.pair (.int .i64) (.pair (.int .i64) .unit)) (y3, (y4, ()))) []) ∧
 (∃ y5 : Bool,
 (Need (E 17 [(.tv [] .str x0)] [] (.tv [] .bool y5) []) ∧
 (((y0 = true) →
  (∃ y7 : Int,
  (∃ y8 : Int,
  (Need (E 18 [(.tv [] .str x0), (.tv [] (.int .i64) x1)] [] (.tv [] (.pair (.int .i64) (.pair (.int .i64) .unit)) (y7, (y8, ()))) []) ∧
  (((((decide (y3 = y7)) && ((decide (y4 = y8)) && true)) = true) →
   (∃ y10 : Bool,
   (Need (E 19 [(.tv [] .str x0)] [] (.tv [] .bool y10) []) ∧
   ((((BEq.beq y5 y10) = true) →
    (∃ y12 : (List (List Int)),
    (Need (E 21 [] [] (.tv [[]] (.slice .str) y12) []) ∧
    (∃ y13 : (List (List Int)),
    (Need (E 22 [] [] (.tv [[]] (.slice .str) y13) []) ∧
    (∃ y14 : Bool,
    (Need (E 20 [(.tv [] (.slice .str) y12), (.tv [] (.slice .str) y13)] [] (.tv [] .bool y14) []) ∧
    (Q (.tv [] .bool y14) [])))))))) ∧
   (((BEq.beq y5 y10) = false) →
   (Q (.tv [] .bool false) [])))))) ∧
  ((((decide (y3 = y7)) && ((decide (y4 = y8)) && true)) = false) →
  (Q (.tv [] .bool false) []))))))) ∧
 ((y0 = false) →
 (Q (.tv [] .bool false) []))))))))))))) : EvF PP orc 9 [.tv [] .str x0, .tv [] (.int .i64) x1] [] Q := vcF_ok (sg := sg) (Eq.mp (by kernel_rfl) h)
end Go.Am.L
