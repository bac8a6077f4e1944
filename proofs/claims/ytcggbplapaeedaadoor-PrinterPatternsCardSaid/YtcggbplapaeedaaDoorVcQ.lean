/-
  A part of the proof of a law: see the text that states it.
-/
import Derived.Test.YtcggbplapaeedaaDoorHead
set_option linter.all false
namespace Go.Am.R
open Go
set_option maxRecDepth 100000
set_option maxHeartbeats 4000000
theorem vc9 (x0 : List Int) (x1 : List Int) (x2 : Bool) (Q : AV → Heap → Prop) (h :
(∃ y0 : Bool,
 (Need (E 18 [] [] (.tv [] .bool y0) []) ∧
 ((((decide ((40 : Int) < (x0.length : Int))) = true) →
 (Q (.tv [] .bool y0) [])) ∧
 (((decide ((40 : Int) < (x0.length : Int))) = false) →
 ((((decide ((40 : Int) < (x1.length : Int))) = true) →
 (Q (.tv [] .bool y0) [])) ∧
 (((decide ((40 : Int) < (x1.length : Int))) = false) →
 ((((!(decide (x0 = []))) = true) →
 ((((decide ((x0.length : Int) ≤ (32 : Int))) = true) →
 (∃ y7 : qT6,
 (Need (E 25 [(.tv [] qt8 (x0, ([], (false, ()))))] [] (.tv [] .str y7) []) ∧
 (∃ y8 : qT2,
 (∃ y9 y10 y11 : Int,
 (Need (E 28 [(.tv [] .str y7)] [] (.tup [(.tv [] qt5 y8), (.tv [] qt2 (y9, ((y10, (y11, ())), ())))]) []) ∧
 ((((decide (y9 ≠ (0 : Int))) = true) →
 (Q (.tv [] .bool false) [])) ∧
 (((decide (y9 ≠ (0 : Int))) = false) →
 ((((decide ((y8.length : Int) ≠ (2 : Int))) = true) →
 (Q (.tv [] .bool false) [])) ∧
 (((decide ((y8.length : Int) ≠ (2 : Int))) = false) →
 (Need (((0 : Int) ≤ (0 : Int)) ∧ ((0 : Int) < (y8.length : Int))) ∧
 ((((decide ((List.getD y8 0 ((0 : Int), ([], (((0 : Int), ((0 : Int), ())), ())))).1 ≠ (3 : Int))) = true) →
 (Q (.tv [] .bool false) [])) ∧
 (((decide ((List.getD y8 0 ((0 : Int), ([], (((0 : Int), ((0 : Int), ())), ())))).1 ≠ (3 : Int))) = false) →
 (Need (((0 : Int) ≤ (0 : Int)) ∧ ((0 : Int) < (y8.length : Int))) ∧
 ((((!(decide ((List.getD y8 0 ((0 : Int), ([], (((0 : Int), ((0 : Int), ())), ())))).2.1 = x0))) = true) →
 (Q (.tv [] .bool false) [])) ∧
 (((!(decide ((List.getD y8 0 ((0 : Int), ([], (((0 : Int), ((0 : Int), ())), ())))).2.1 = x0))) = false) →
 (∃ y20 : (Int → Prop),
 (∃ y21 : (Int → Nat),
 ((y20 (1 : Int)) ∧
 (∀ z22 : Int,
 ((y20 z22) →
 ((((decide (z22 < (x1.length : Int))) = true) →
 (Need ((-9223372036854775808 ≤ (z22 - 1)) ∧ ((z22 - 1) ≤ 9223372036854775807)) ∧
 (Need (((0 : Int) ≤ (z22 - 1)) ∧ ((z22 - 1) < (x1.length : Int))) ∧
 (Need ((0 ≤ z22) ∧ (z22 < (x1.length : Int))) ∧
 ((((decide ((List.getD x1 z22.toNat (0 : Int)) ≤ (List.getD x1 (Int.toNat (z22 - 1)) (0 : Int)))) = true) →
 (Q (.tv [] .bool y0) [])) ∧
 (((decide ((List.getD x1 z22.toNat (0 : Int)) ≤ (List.getD x1 (Int.toNat (z22 - 1)) (0 : Int)))) = false) →
 (Need ((-9223372036854775808 ≤ (z22 + 1)) ∧ ((z22 + 1) ≤ 9223372036854775807)) ∧
 (Need ((y9, ((y10, (y11, ())), ())) = (y9, ((y10, (y11, ())), ()))) ∧
 ((y20 (z22 + 1)) ∧
    Need ((y21 (z22 + 1)) < (y21 z22))))))))))) ∧
 (((decide (z22 < (x1.length : Int))) = false) →
 ((((decide (x1 = [])) = true) →
 (Q (.tv [] .bool y0) [])) ∧
 (((decide (x1 = [])) = false) →
 (∃ y30 : qT6,
 (Need (E 25 [(.tv [] qt8 ([], (x1, (x2, ()))))] [] (.tv [] .str y30) []) ∧
 (∃ y31 : qT2,
 (∃ y32 y33 y34 : Int,
 (Need (E 28 [(.tv [] .str y30)] [] (.tup [(.tv [] qt5 y31), (.tv [] qt2 (y32, ((y33, (y34, ())), ())))]) []) ∧
 ((((decide (y32 ≠ (0 : Int))) = true) →
 (Q (.tv [] .bool false) [])) ∧
 (((decide (y32 ≠ (0 : Int))) = false) →
 ((((decide ((y31.length : Int) < (2 : Int))) = true) →
 (Q (.tv [] .bool false) [])) ∧
 (((decide ((y31.length : Int) < (2 : Int))) = false) →
 (Need (((0 : Int) ≤ (0 : Int)) ∧ ((0 : Int) < (y31.length : Int))) ∧
 ((((decide ((List.getD y31 0 ((0 : Int), ([], (((0 : Int), ((0 : Int), ())), ())))).1 ≠ (4 : Int))) = true) →
 (Q (.tv [] .bool false) [])) ∧
 (((decide ((List.getD y31 0 ((0 : Int), ([], (((0 : Int), ((0 : Int), ())), ())))).1 ≠ (4 : Int))) = false) →
 (Need (((0 : Int) ≤ (0 : Int)) ∧ ((0 : Int) < (y31.length : Int))) ∧
 ((((!(decide ((List.getD y31 0 ((0 : Int), ([], (((0 : Int), ((0 : Int), ())), ())))).2.1 = x1))) = true) →
 (Q (.tv [] .bool false) [])) ∧
 (((!(decide ((List.getD y31 0 ((0 : Int), ([], (((0 : Int), ((0 : Int), ())), ())))).2.1 = x1))) = false) →
 (((y0 = true) →
 ((((BEq.beq (decide ((y31.length : Int) = (3 : Int))) x2) = true) →
 ((((!x2) = true) →
 (Q (.tv [] .bool true) [])) ∧
 (((!x2) = false) →
 (Need (((0 : Int) ≤ (1 : Int)) ∧ ((1 : Int) < (y31.length : Int))) ∧
 (Q (.tv [] .bool (decide ((List.getD y31 1 ((0 : Int), ([], (((0 : Int), ((0 : Int), ())), ())))).1 = (5 : Int)))) []))))) ∧
 (((BEq.beq (decide ((y31.length : Int) = (3 : Int))) x2) = false) →
 (Q (.tv [] .bool false) [])))) ∧
 ((y0 = false) →
 (Q (.tv [] .bool false) []))))))))))))))))))))))))))))))))))))))))))) ∧
 (((decide ((x0.length : Int) ≤ (32 : Int))) = false) →
 (∃ y50 : (Int → Prop),
 (∃ y51 : (Int → Nat),
 ((y50 (1 : Int)) ∧
 (∀ z52 : Int,
 ((y50 z52) →
 ((((decide (z52 < (x1.length : Int))) = true) →
 (Need ((-9223372036854775808 ≤ (z52 - 1)) ∧ ((z52 - 1) ≤ 9223372036854775807)) ∧
 (Need (((0 : Int) ≤ (z52 - 1)) ∧ ((z52 - 1) < (x1.length : Int))) ∧
 (Need ((0 ≤ z52) ∧ (z52 < (x1.length : Int))) ∧
 ((((decide ((List.getD x1 z52.toNat (0 : Int)) ≤ (List.getD x1 (Int.toNat (z52 - 1)) (0 : Int)))) = true) →
 (Q (.tv [] .bool y0) [])) ∧
 (((decide ((List.getD x1 z52.toNat (0 : Int)) ≤ (List.getD x1 (Int.toNat (z52 - 1)) (0 : Int)))) = false) →
 (Need ((-9223372036854775808 ≤ (z52 + 1)) ∧ ((z52 + 1) ≤ 9223372036854775807)) ∧
 ((y50 (z52 + 1)) ∧
   Need ((y51 (z52 + 1)) < (y51 z52)))))))))) ∧
 (((decide (z52 < (x1.length : Int))) = false) →
 ((((decide (x1 = [])) = true) →
 (Q (.tv [] .bool y0) [])) ∧
 (((decide (x1 = [])) = false) →
 (∃ y60 : qT6,
 (Need (E 25 [(.tv [] qt8 ([], (x1, (x2, ()))))] [] (.tv [] .str y60) []) ∧
 (∃ y61 : qT2,
 (∃ y62 y63 y64 : Int,
 (Need (E 28 [(.tv [] .str y60)] [] (.tup [(.tv [] qt5 y61), (.tv [] qt2 (y62, ((y63, (y64, ())), ())))]) []) ∧
 ((((decide (y62 ≠ (0 : Int))) = true) →
 (Q (.tv [] .bool false) [])) ∧
 (((decide (y62 ≠ (0 : Int))) = false) →
 ((((decide ((y61.length : Int) < (2 : Int))) = true) →
 (Q (.tv [] .bool false) [])) ∧
 (((decide ((y61.length : Int) < (2 : Int))) = false) →
 (Need (((0 : Int) ≤ (0 : Int)) ∧ ((0 : Int) < (y61.length : Int))) ∧
 ((((decide ((List.getD y61 0 ((0 : Int), ([], (((0 : Int), ((0 : Int), ())), ())))).1 ≠ (4 : Int))) = true) →
 (Q (.tv [] .bool false) [])) ∧
 (((decide ((List.getD y61 0 ((0 : Int), ([], (((0 : Int), ((0 : Int), ())), ())))).1 ≠ (4 : Int))) = false) →
 (Need (((0 : Int) ≤ (0 : Int)) ∧ ((0 : Int) < (y61.length : Int))) ∧
 ((((!(decide ((List.getD y61 0 ((0 : Int), ([], (((0 : Int), ((0 : Int), ())), ())))).2.1 = x1))) = true) →
 (Q (.tv [] .bool false) [])) ∧
 (((!(decide ((List.getD y61 0 ((0 : Int), ([], (((0 : Int), ((0 : Int), ())), ())))).2.1 = x1))) = false) →
 (((y0 = true) →
 ((((BEq.beq (decide ((y61.length : Int) = (3 : Int))) x2) = true) →
 ((((!x2) = true) →
 (Q (.tv [] .bool true) [])) ∧
 (((!x2) = false) →
 (Need (((0 : Int) ≤ (1 : Int)) ∧ ((1 : Int) < (y61.length : Int))) ∧
 (Q (.tv [] .bool (decide ((List.getD y61 1 ((0 : Int), ([], (((0 : Int), ((0 : Int), ())), ())))).1 = (5 : Int)))) []))))) ∧
 (((BEq.beq (decide ((y61.length : Int) = (3 : Int))) x2) = false) →
 (Q (.tv [] .bool false) [])))) ∧
 ((y0 = false) →
 (Q (.tv [] .bool false) [])))))))))))))))))))))))))))))) ∧
 (((!(decide (x0 = []))) = false) →
 (∃ y80 : (Int → Prop),
 (∃ y81 : (Int → Nat),
 ((y80 (1 : Int)) ∧
 (∀ z82 : Int,
 ((y80 z82) →
 ((((decide (z82 < (x1.length : Int))) = true) →
 (Need ((-9223372036854775808 ≤ (z82 - 1)) ∧ ((z82 - 1) ≤ 9223372036854775807)) ∧
 (Need (((0 : Int) ≤ (z82 - 1)) ∧ ((z82 - 1) < (x1.length : Int))) ∧
 (Need ((0 ≤ z82) ∧ (z82 < (x1.length : Int))) ∧
 ((((decide ((List.getD x1 z82.toNat (0 : Int)) ≤ (List.getD x1 (Int.toNat (z82 - 1)) (0 : Int)))) = true) →
 (Q (.tv [] .bool y0) [])) ∧
 (((decide ((List.getD x1 z82.toNat (0 : Int)) ≤ (List.getD x1 (Int.toNat (z82 - 1)) (0 : Int)))) = false) →
 (Need ((-9223372036854775808 ≤ (z82 + 1)) ∧ ((z82 + 1) ≤ 9223372036854775807)) ∧
 ((y80 (z82 + 1)) ∧
  Need ((y81 (z82 + 1)) < (y81 z82)))))))))) ∧
 (((decide (z82 < (x1.length : Int))) = false) →
 ((((decide (x1 = [])) = true) →
 (Q (.tv [] .bool y0) [])) ∧
 (((decide (x1 = [])) = false) →
 (∃ y90 : qT6,
 (Need (E 25 [(.tv [] qt8 ([], (x1, (x2, ()))))] [] (.tv [] .str y90) []) ∧
 (∃ y91 : qT2,
 (∃ y92 y93 y94 : Int,
 (Need (E 28 [(.tv [] .str y90)] [] (.tup [(.tv [] qt5 y91), (.tv [] qt2 (y92, ((y93, (y94, ())), ())))]) []) ∧
 ((((decide (y92 ≠ (0 : Int))) = true) →
 (Q (.tv [] .bool false) [])) ∧
 (((decide (y92 ≠ (0 : Int))) = false) →
 ((((decide ((y91.length : Int) < (2 : Int))) = true) →
 (Q (.tv [] .bool false) [])) ∧
 (((decide ((y91.length : Int) < (2 : Int))) = false) →
 (Need (((0 : Int) ≤ (0 : Int)) ∧ ((0 : Int) < (y91.length : Int))) ∧
 ((((decide ((List.getD y91 0 ((0 : Int), ([], (((0 : Int), ((0 : Int), ())), ())))).1 ≠ (4 : Int))) = true) →
 (Q (.tv [] .bool false) [])) ∧
 (((decide ((List.getD y91 0 ((0 : Int), ([], (((0 : Int), ((0 : Int), ())), ())))).1 ≠ (4 : Int))) = false) →
 (Need (((0 : Int) ≤ (0 : Int)) ∧ ((0 : Int) < (y91.length : Int))) ∧
 ((((!(decide ((List.getD y91 0 ((0 : Int), ([], (((0 : Int), ((0 : Int), ())), ())))).2.1 = x1))) = true) →
 (Q (.tv [] .bool false) [])) ∧
 (((!(decide ((List.getD y91 0 ((0 : Int), ([], (((0 : Int), ((0 : Int), ())), ())))).2.1 = x1))) = false) →
 (((y0 = true) →
 ((((BEq.beq (decide ((y91.length : Int) = (3 : Int))) x2) = true) →
 ((((!x2) = true) →
 (Q (.tv [] .bool true) [])) ∧
 (((!x2) = false) →
 (Need (((0 : Int) ≤ (1 : Int)) ∧ ((1 : Int) < (y91.length : Int))) ∧
 (Q (.tv [] .bool (decide ((List.getD y91 1 ((0 : Int), ([], (((0 : Int), ((0 : Int), ())), ())))).1 = (5 : Int)))) []))))) ∧
 (((BEq.beq (decide ((y91.length : Int) = (3 : Int))) x2) = false) →
 (Q (.tv [] .bool false) [])))) ∧
 ((y0 = false) →
 (Q (.tv [] .bool false) [])))))))))))))))))))))))))))))))))))) : EvF PP orc 9 [.tv [] .str x0, .tv [] .str x1, .tv [] .bool x2] [] Q := vc_of (by kernel_rfl) h
end Go.Am.R
