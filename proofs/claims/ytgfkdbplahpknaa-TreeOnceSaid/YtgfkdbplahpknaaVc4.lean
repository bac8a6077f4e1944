/-
  A part of the proof of a law: see the text that states it.
-/
import Derived.Test.YtgfkdbplahpknaaHead
set_option linter.all false
namespace Go.Am.T
open Go
set_option maxRecDepth 100000
set_option maxHeartbeats 4000000
theorem vc50 (x0_0 : Int) (x0_1 : Int) (x0_2 : List (Int)) (x0_3 : List (List (Int))) (x0_4 : List (Int)) (x0_5 : List (Int)) (x0_6 : List (Int)) (Q : AV → Heap → Prop) (h :
(Need ((5 : Int) ≠ (0 : Int)) ∧
 (Need (¬ ((IntKind.u8 = IntKind.u8) ∧ (¬ (((0 : Int) ≤ x0_0) ∧ ((x0_0 < (256 : Int)) ∧ ((0 : Int) < (5 : Int))))))) ∧
 (Need (((-9223372036854775808 : Int) ≤ (Int.tmod x0_0 (5 : Int))) ∧ ((Int.tmod x0_0 (5 : Int)) ≤ (9223372036854775807 : Int))) ∧
 (Need (((-9223372036854775808 : Int) ≤ ((Int.tmod x0_0 (5 : Int)) + (1 : Int))) ∧ (((Int.tmod x0_0 (5 : Int)) + (1 : Int)) ≤ (9223372036854775807 : Int))) ∧
 (Need ((4 : Int) ≠ (0 : Int)) ∧
 (Need (¬ ((IntKind.u8 = IntKind.u8) ∧ (¬ (((0 : Int) ≤ x0_1) ∧ ((x0_1 < (256 : Int)) ∧ ((0 : Int) < (4 : Int))))))) ∧
 (Need (((-9223372036854775808 : Int) ≤ (Int.tmod x0_1 (4 : Int))) ∧ ((Int.tmod x0_1 (4 : Int)) ≤ (9223372036854775807 : Int))) ∧
 (Need (((-9223372036854775808 : Int) ≤ ((Int.tmod x0_1 (4 : Int)) + (1 : Int))) ∧ (((Int.tmod x0_1 (4 : Int)) + (1 : Int)) ≤ (9223372036854775807 : Int))) ∧
 (∃ y0 : (Int → (qT9 → ((List qT5) → (Int → (Int → (qT2 → (qT6 → (Int → (qT3 → (Int → (qT3 → (Int → (qT3 → Prop))))))))))))),
 (∃ y1 : (Int → (qT9 → ((List qT5) → (Int → (Int → (qT2 → (qT6 → (Int → (qT3 → (Int → (qT3 → (Int → (qT3 → Nat))))))))))))),
 (Need ((0 = 0) ∧ ((0 = 0) ∧ (0 = 0))) ∧
 ((y0 (0 : Int) [] [] ((0 : Nat) : Int) ((0 : Nat) : Int) (List.map (fun v2 => (((BitVec.toNat (UInt8.toBitVec v2)) : Nat) : Int)) [(83 : UInt8)]) [] ((0 : Nat) : Int) [] ((0 : Nat) : Int) [] ((0 : Nat) : Int) []) ∧
 (∀ z3 : Int,
 (∀ z4 : qT9,
 (∀ z5 : (List qT5),
 (∀ z6 : Int,
 (∀ z7 : Int,
 (∀ z8 : qT2,
 (∀ z9 : qT6,
 (∀ z10 : Int,
 (∀ z11 : qT3,
 (∀ z12 : Int,
 (∀ z13 : qT3,
 (∀ z14 : Int,
 (∀ z15 : qT3,
 ((y0 z3 z4 z5 z6 z7 z8 z9 z10 z11 z12 z13 z14 z15) →
 ((((decide (z3 < ((List.length x0_5) : Int))) = true) →
  (Need (((0 : Int) ≤ z3) ∧ (z3 < ((List.length x0_5) : Int))) ∧
  (Need ((3 : Int) ≠ (0 : Int)) ∧
  (Need (¬ ((IntKind.u8 = IntKind.u8) ∧ (¬ (((0 : Int) ≤ (List.getD x0_5 (Int.toNat z3) (0 : Int))) ∧ (((List.getD x0_5 (Int.toNat z3) (0 : Int)) < (256 : Int)) ∧ ((0 : Int) < (3 : Int))))))) ∧
  (Need (((-9223372036854775808 : Int) ≤ (Int.tmod (List.getD x0_5 (Int.toNat z3) (0 : Int)) (3 : Int))) ∧ ((Int.tmod (List.getD x0_5 (Int.toNat z3) (0 : Int)) (3 : Int)) ≤ (9223372036854775807 : Int))) ∧
  (Need (((-9223372036854775808 : Int) ≤ ((Int.tmod (List.getD x0_5 (Int.toNat z3) (0 : Int)) (3 : Int)) + (1 : Int))) ∧ (((Int.tmod (List.getD x0_5 (Int.toNat z3) (0 : Int)) (3 : Int)) + (1 : Int)) ≤ (9223372036854775807 : Int))) ∧
  (Need (((-9223372036854775808 : Int) ≤ (z3 + (1 : Int))) ∧ ((z3 + (1 : Int)) ≤ (9223372036854775807 : Int))) ∧
  (Need (((0 : Int) ≤ z3) ∧ ((z3 ≤ (z3 + (1 : Int))) ∧ ((z3 + (1 : Int)) ≤ (5 : Int)))) ∧
  (Need (((Int.toNat z6) = (Int.toNat z12)) ∧ (((Int.toNat z7) ≤ (List.length z13)) ∧ ((0 < (List.length [(((Int.tmod (List.getD x0_5 (Int.toNat z3) (0 : Int)) (3 : Int)) + (1 : Int)), ([(cut [(112 : Int), (113 : Int), (114 : Int), (115 : Int), (116 : Int)] (Int.toNat z3) (Int.toNat (z3 + (1 : Int))))], ()))])) ∧ (((List.length z13) + (List.length [(((Int.tmod (List.getD x0_5 (Int.toNat z3) (0 : Int)) (3 : Int)) + (1 : Int)), ([(cut [(112 : Int), (113 : Int), (114 : Int), (115 : Int), (116 : Int)] (Int.toNat z3) (Int.toNat (z3 + (1 : Int))))], ()))])) ≤ bigN)))) ∧
  (Need (((-9223372036854775808 : Int) ≤ (z3 + (1 : Int))) ∧ ((z3 + (1 : Int)) ≤ (9223372036854775807 : Int))) ∧
  (Need (((([], ([], ((Option.some ((3, 1), (0, (0, 0)))), ([], ([], ()))))) : den qt4) = ([], ([], ((Option.some ((3, 1), (0, (0, 0)))), ([], ([], ())))))) ∧ (((List.length z11) = (List.length z11)) ∧ ((((Int.toNat z7) + (List.length [(((Int.tmod (List.getD x0_5 (Int.toNat z3) (0 : Int)) (3 : Int)) + (1 : Int)), ([(cut [(112 : Int), (113 : Int), (114 : Int), (115 : Int), (116 : Int)] (Int.toNat z3) (Int.toNat (z3 + (1 : Int))))], ()))])) = (List.length ((List.take (Int.toNat z7) z13) ++ [(((Int.tmod (List.getD x0_5 (Int.toNat z3) (0 : Int)) (3 : Int)) + (1 : Int)), ([(cut [(112 : Int), (113 : Int), (114 : Int), (115 : Int), (116 : Int)] (Int.toNat z3) (Int.toNat (z3 + (1 : Int))))], ()))]))) ∧ ((List.length z15) = (List.length z15))))) ∧
  ((y0 (z3 + (1 : Int)) z4 z5 (((Nat.succ (Int.toNat z12)) : Nat) : Int) ((((Int.toNat z7) + (List.length [(((Int.tmod (List.getD x0_5 (Int.toNat z3) (0 : Int)) (3 : Int)) + (1 : Int)), ([(cut [(112 : Int), (113 : Int), (114 : Int), (115 : Int), (116 : Int)] (Int.toNat z3) (Int.toNat (z3 + (1 : Int))))], ()))])) : Nat) : Int) z8 z9 ((Int.toNat z10) : Int) z11 (((Nat.succ (Int.toNat z12)) : Nat) : Int) ((List.take (Int.toNat z7) z13) ++ [(((Int.tmod (List.getD x0_5 (Int.toNat z3) (0 : Int)) (3 : Int)) + (1 : Int)), ([(cut [(112 : Int), (113 : Int), (114 : Int), (115 : Int), (116 : Int)] (Int.toNat z3) (Int.toNat (z3 + (1 : Int))))], ()))]) ((Int.toNat z14) : Int) z15) ∧
  Need ((y1 (z3 + (1 : Int)) z4 z5 (((Nat.succ (Int.toNat z12)) : Nat) : Int) ((((Int.toNat z7) + (List.length [(((Int.tmod (List.getD x0_5 (Int.toNat z3) (0 : Int)) (3 : Int)) + (1 : Int)), ([(cut [(112 : Int), (113 : Int), (114 : Int), (115 : Int), (116 : Int)] (Int.toNat z3) (Int.toNat (z3 + (1 : Int))))], ()))])) : Nat) : Int) z8 z9 ((Int.toNat z10) : Int) z11 (((Nat.succ (Int.toNat z12)) : Nat) : Int) ((List.take (Int.toNat z7) z13) ++ [(((Int.tmod (List.getD x0_5 (Int.toNat z3) (0 : Int)) (3 : Int)) + (1 : Int)), ([(cut [(112 : Int), (113 : Int), (114 : Int), (115 : Int), (116 : Int)] (Int.toNat z3) (Int.toNat (z3 + (1 : Int))))], ()))]) ((Int.toNat z14) : Int) z15) < (y1 z3 z4 z5 z6 z7 z8 z9 z10 z11 z12 z13 z14 z15)))))))))))))) ∧
 (((decide (z3 < ((List.length x0_5) : Int))) = false) →
 (∃ y19 : (Int → (qT9 → ((List qT5) → (Int → (Int → (qT2 → (qT6 → (Int → (qT3 → (Int → (qT3 → (Int → (qT3 → Prop))))))))))))),
 (∃ y20 : (Int → (qT9 → ((List qT5) → (Int → (Int → (qT2 → (qT6 → (Int → (qT3 → (Int → (qT3 → (Int → (qT3 → Nat))))))))))))),
 (Need (((List.length z11) = (List.length z11)) ∧ (((List.length z13) = (List.length z13)) ∧ ((List.length z15) = (List.length z15)))) ∧
 ((y19 (0 : Int) z4 z5 ((Int.toNat z6) : Int) ((Int.toNat z7) : Int) z8 z9 ((Int.toNat z10) : Int) z11 ((Int.toNat z12) : Int) z13 ((Int.toNat z14) : Int) z15) ∧
 (∀ z21 : Int,
 (∀ z22 : qT9,
 (∀ z23 : (List qT5),
 (∀ z24 : Int,
 (∀ z25 : Int,
 (∀ z26 : qT2,
 (∀ z27 : qT6,
 (∀ z28 : Int,
 (∀ z29 : qT3,
 (∀ z30 : Int,
 (∀ z31 : qT3,
 (∀ z32 : Int,
 (∀ z33 : qT3,
 ((y19 z21 z22 z23 z24 z25 z26 z27 z28 z29 z30 z31 z32 z33) →
 ((((decide (z21 < ((Int.tmod x0_0 (5 : Int)) + (1 : Int)))) = true) →
  (Need (((-9223372036854775808 : Int) ≤ (z21 + (1 : Int))) ∧ ((z21 + (1 : Int)) ≤ (9223372036854775807 : Int))) ∧
  (Need (((0 : Int) ≤ z21) ∧ ((z21 ≤ (z21 + (1 : Int))) ∧ ((z21 + (1 : Int)) ≤ (5 : Int)))) ∧
  (Need (((List.length z22) + (List.length [(((cut [(97 : Int), (98 : Int), (99 : Int), (100 : Int), (101 : Int)] (Int.toNat z21) (Int.toNat (z21 + (1 : Int)))), (((cut [(97 : Int), (98 : Int), (99 : Int), (100 : Int), (101 : Int)] (Int.toNat z21) (Int.toNat (z21 + (1 : Int)))), ([], (false, ()))), ())) : List Int × (List Int × List Int × Bool × Unit) × Unit)])) ≤ bigN) ∧
  ((((decide (z21 < ((List.length x0_6) : Int))) = true) →
   (Need (((0 : Int) ≤ z21) ∧ (z21 < ((List.length x0_6) : Int))) ∧
   (Need (((-9223372036854775808 : Int) ≤ (List.getD x0_6 (Int.toNat z21) (0 : Int))) ∧ ((List.getD x0_6 (Int.toNat z21) (0 : Int)) ≤ (9223372036854775807 : Int))) ∧
   (Need (((-9223372036854775808 : Int) ≤ (((Int.toNat z25) : Int) + (1 : Int))) ∧ ((((Int.toNat z25) : Int) + (1 : Int)) ≤ (9223372036854775807 : Int))) ∧
   (Need ((((Int.toNat z25) : Int) + (1 : Int)) ≠ (0 : Int)) ∧
   (Need (¬ ((IntKind.i64 = IntKind.u8) ∧ (¬ (((0 : Int) ≤ (List.getD x0_6 (Int.toNat z21) (0 : Int))) ∧ (((List.getD x0_6 (Int.toNat z21) (0 : Int)) < (256 : Int)) ∧ ((0 : Int) < (((Int.toNat z25) : Int) + (1 : Int)))))))) ∧
   ((((decide ((0 : Int) < (Int.tmod (List.getD x0_6 (Int.toNat z21) (0 : Int)) (((Int.toNat z25) : Int) + (1 : Int))))) = true) →
    (Need (((-9223372036854775808 : Int) ≤ ((Int.tmod (List.getD x0_6 (Int.toNat z21) (0 : Int)) (((Int.toNat z25) : Int) + (1 : Int))) - (1 : Int))) ∧ (((Int.tmod (List.getD x0_6 (Int.toNat z21) (0 : Int)) (((Int.toNat z25) : Int) + (1 : Int))) - (1 : Int)) ≤ (9223372036854775807 : Int))) ∧
    (Need (((-9223372036854775808 : Int) ≤ ((Int.tmod (List.getD x0_6 (Int.toNat z21) (0 : Int)) (((Int.toNat z25) : Int) + (1 : Int))) - (1 : Int))) ∧ (((Int.tmod (List.getD x0_6 (Int.toNat z21) (0 : Int)) (((Int.toNat z25) : Int) + (1 : Int))) - (1 : Int)) ≤ (9223372036854775807 : Int))) ∧
    (Need (((0 : Int) ≤ ((Int.tmod (List.getD x0_6 (Int.toNat z21) (0 : Int)) (((Int.toNat z25) : Int) + (1 : Int))) - (1 : Int))) ∧ (((Int.tmod (List.getD x0_6 (Int.toNat z21) (0 : Int)) (((Int.toNat z25) : Int) + (1 : Int))) - (1 : Int)) < ((Int.toNat z25) : Int))) ∧
    (Need ((Int.toNat z30) = (Int.toNat z24)) ∧
    (Need ((0 + (Int.toNat ((Int.tmod (List.getD x0_6 (Int.toNat z21) (0 : Int)) (((Int.toNat z25) : Int) + (1 : Int))) - (1 : Int)))) < (List.length z31)) ∧
    (Need ((Int.toNat z30) = (Int.toNat z24)) ∧
    (Need ((0 + (Int.toNat ((Int.tmod (List.getD x0_6 (Int.toNat z21) (0 : Int)) (((Int.toNat z25) : Int) + (1 : Int))) - (1 : Int)))) < (List.length z31)) ∧
    (Need ((0 + (List.length (List.getD z31 (0 + (Int.toNat ((Int.tmod (List.getD x0_6 (Int.toNat z21) (0 : Int)) (((Int.toNat z25) : Int) + (1 : Int))) - (1 : Int)))) ((0 : Int), ([], ()))).2.1)) ≤ bigN) ∧
    (Need (((List.length ([] ++ (List.getD z31 (0 + (Int.toNat ((Int.tmod (List.getD x0_6 (Int.toNat z21) (0 : Int)) (((Int.toNat z25) : Int) + (1 : Int))) - (1 : Int)))) ((0 : Int), ([], ()))).2.1)) + (List.length [(cut [(97 : Int), (98 : Int), (99 : Int), (100 : Int), (101 : Int)] (Int.toNat z21) (Int.toNat (z21 + (1 : Int))))])) ≤ bigN) ∧
    (Need (((0 : Int) ≤ ((Int.tmod (List.getD x0_6 (Int.toNat z21) (0 : Int)) (((Int.toNat z25) : Int) + (1 : Int))) - (1 : Int))) ∧ (((Int.tmod (List.getD x0_6 (Int.toNat z21) (0 : Int)) (((Int.toNat z25) : Int) + (1 : Int))) - (1 : Int)) < ((Int.toNat z25) : Int))) ∧
    (Need ((Int.toNat z30) = (Int.toNat z24)) ∧
    (Need ((0 + (Int.toNat ((Int.tmod (List.getD x0_6 (Int.toNat z21) (0 : Int)) (((Int.toNat z25) : Int) + (1 : Int))) - (1 : Int)))) < (List.length z31)) ∧
    (Need ((Int.toNat z30) = (Int.toNat z24)) ∧
    (Need ((0 + (Int.toNat ((Int.tmod (List.getD x0_6 (Int.toNat z21) (0 : Int)) (((Int.toNat z25) : Int) + (1 : Int))) - (1 : Int)))) < (List.length z31)) ∧
    (Need (((-9223372036854775808 : Int) ≤ (z21 + (1 : Int))) ∧ ((z21 + (1 : Int)) ≤ (9223372036854775807 : Int))) ∧
    (Need (((([], ([], ((Option.some ((3, 1), (0, (0, 0)))), ([], ([], ()))))) : den qt4) = ([], ([], ((Option.some ((3, 1), (0, (0, 0)))), ([], ([], ())))))) ∧ (((List.length z29) = (List.length z29)) ∧ (((List.length z31) = (List.length (List.set z31 (0 + (Int.toNat ((Int.tmod (List.getD x0_6 (Int.toNat z21) (0 : Int)) (((Int.toNat z25) : Int) + (1 : Int))) - (1 : Int)))) ((List.getD z31 (0 + (Int.toNat ((Int.tmod (List.getD x0_6 (Int.toNat z21) (0 : Int)) (((Int.toNat z25) : Int) + (1 : Int))) - (1 : Int)))) ((0 : Int), ([], ()))).1, ((([] ++ (List.getD z31 (0 + (Int.toNat ((Int.tmod (List.getD x0_6 (Int.toNat z21) (0 : Int)) (((Int.toNat z25) : Int) + (1 : Int))) - (1 : Int)))) ((0 : Int), ([], ()))).2.1) ++ [(cut [(97 : Int), (98 : Int), (99 : Int), (100 : Int), (101 : Int)] (Int.toNat z21) (Int.toNat (z21 + (1 : Int))))]), (List.getD z31 (0 + (Int.toNat ((Int.tmod (List.getD x0_6 (Int.toNat z21) (0 : Int)) (((Int.toNat z25) : Int) + (1 : Int))) - (1 : Int)))) ((0 : Int), ([], ()))).2.2))))) ∧ ((List.length z33) = (List.length z33))))) ∧
    ((y19 (z21 + (1 : Int)) (z22 ++ [(((cut [(97 : Int), (98 : Int), (99 : Int), (100 : Int), (101 : Int)] (Int.toNat z21) (Int.toNat (z21 + (1 : Int)))), (((cut [(97 : Int), (98 : Int), (99 : Int), (100 : Int), (101 : Int)] (Int.toNat z21) (Int.toNat (z21 + (1 : Int)))), ([], (false, ()))), ())) : List Int × (List Int × List Int × Bool × Unit) × Unit)]) z23 ((Int.toNat z24) : Int) ((Int.toNat z25) : Int) z26 z27 ((Int.toNat z28) : Int) z29 ((Int.toNat z30) : Int) (List.set z31 (0 + (Int.toNat ((Int.tmod (List.getD x0_6 (Int.toNat z21) (0 : Int)) (((Int.toNat z25) : Int) + (1 : Int))) - (1 : Int)))) ((List.getD z31 (0 + (Int.toNat ((Int.tmod (List.getD x0_6 (Int.toNat z21) (0 : Int)) (((Int.toNat z25) : Int) + (1 : Int))) - (1 : Int)))) ((0 : Int), ([], ()))).1, ((([] ++ (List.getD z31 (0 + (Int.toNat ((Int.tmod (List.getD x0_6 (Int.toNat z21) (0 : Int)) (((Int.toNat z25) : Int) + (1 : Int))) - (1 : Int)))) ((0 : Int), ([], ()))).2.1) ++ [(cut [(97 : Int), (98 : Int), (99 : Int), (100 : Int), (101 : Int)] (Int.toNat z21) (Int.toNat (z21 + (1 : Int))))]), (List.getD z31 (0 + (Int.toNat ((Int.tmod (List.getD x0_6 (Int.toNat z21) (0 : Int)) (((Int.toNat z25) : Int) + (1 : Int))) - (1 : Int)))) ((0 : Int), ([], ()))).2.2))) ((Int.toNat z32) : Int) z33) ∧
    Need ((y20 (z21 + (1 : Int)) (z22 ++ [(((cut [(97 : Int), (98 : Int), (99 : Int), (100 : Int), (101 : Int)] (Int.toNat z21) (Int.toNat (z21 + (1 : Int)))), (((cut [(97 : Int), (98 : Int), (99 : Int), (100 : Int), (101 : Int)] (Int.toNat z21) (Int.toNat (z21 + (1 : Int)))), ([], (false, ()))), ())) : List Int × (List Int × List Int × Bool × Unit) × Unit)]) z23 ((Int.toNat z24) : Int) ((Int.toNat z25) : Int) z26 z27 ((Int.toNat z28) : Int) z29 ((Int.toNat z30) : Int) (List.set z31 (0 + (Int.toNat ((Int.tmod (List.getD x0_6 (Int.toNat z21) (0 : Int)) (((Int.toNat z25) : Int) + (1 : Int))) - (1 : Int)))) ((List.getD z31 (0 + (Int.toNat ((Int.tmod (List.getD x0_6 (Int.toNat z21) (0 : Int)) (((Int.toNat z25) : Int) + (1 : Int))) - (1 : Int)))) ((0 : Int), ([], ()))).1, ((([] ++ (List.getD z31 (0 + (Int.toNat ((Int.tmod (List.getD x0_6 (Int.toNat z21) (0 : Int)) (((Int.toNat z25) : Int) + (1 : Int))) - (1 : Int)))) ((0 : Int), ([], ()))).2.1) ++ [(cut [(97 : Int), (98 : Int), (99 : Int), (100 : Int), (101 : Int)] (Int.toNat z21) (Int.toNat (z21 + (1 : Int))))]), (List.getD z31 (0 + (Int.toNat ((Int.tmod (List.getD x0_6 (Int.toNat z21) (0 : Int)) (((Int.toNat z25) : Int) + (1 : Int))) - (1 : Int)))) ((0 : Int), ([], ()))).2.2))) ((Int.toNat z32) : Int) z33) < (y20 z21 z22 z23 z24 z25 z26 z27 z28 z29 z30 z31 z32 z33)))))))))))))))))))) ∧
   (((decide ((0 : Int) < (Int.tmod (List.getD x0_6 (Int.toNat z21) (0 : Int)) (((Int.toNat z25) : Int) + (1 : Int))))) = false) →
   (Need (((-9223372036854775808 : Int) ≤ (z21 + (1 : Int))) ∧ ((z21 + (1 : Int)) ≤ (9223372036854775807 : Int))) ∧
   (Need (((([], ([], ((Option.some ((3, 1), (0, (0, 0)))), ([], ([], ()))))) : den qt4) = ([], ([], ((Option.some ((3, 1), (0, (0, 0)))), ([], ([], ())))))) ∧ (((List.length z29) = (List.length z29)) ∧ (((List.length z31) = (List.length z31)) ∧ ((List.length z33) = (List.length z33))))) ∧
   ((y19 (z21 + (1 : Int)) (z22 ++ [(((cut [(97 : Int), (98 : Int), (99 : Int), (100 : Int), (101 : Int)] (Int.toNat z21) (Int.toNat (z21 + (1 : Int)))), (((cut [(97 : Int), (98 : Int), (99 : Int), (100 : Int), (101 : Int)] (Int.toNat z21) (Int.toNat (z21 + (1 : Int)))), ([], (false, ()))), ())) : List Int × (List Int × List Int × Bool × Unit) × Unit)]) z23 ((Int.toNat z24) : Int) ((Int.toNat z25) : Int) z26 z27 ((Int.toNat z28) : Int) z29 ((Int.toNat z30) : Int) z31 ((Int.toNat z32) : Int) z33) ∧
   Need ((y20 (z21 + (1 : Int)) (z22 ++ [(((cut [(97 : Int), (98 : Int), (99 : Int), (100 : Int), (101 : Int)] (Int.toNat z21) (Int.toNat (z21 + (1 : Int)))), (((cut [(97 : Int), (98 : Int), (99 : Int), (100 : Int), (101 : Int)] (Int.toNat z21) (Int.toNat (z21 + (1 : Int)))), ([], (false, ()))), ())) : List Int × (List Int × List Int × Bool × Unit) × Unit)]) z23 ((Int.toNat z24) : Int) ((Int.toNat z25) : Int) z26 z27 ((Int.toNat z28) : Int) z29 ((Int.toNat z30) : Int) z31 ((Int.toNat z32) : Int) z33) < (y20 z21 z22 z23 z24 z25 z26 z27 z28 z29 z30 z31 z32 z33))))))))))))) ∧
  (((decide (z21 < ((List.length x0_6) : Int))) = false) →
  (Need (((-9223372036854775808 : Int) ≤ (z21 + (1 : Int))) ∧ ((z21 + (1 : Int)) ≤ (9223372036854775807 : Int))) ∧
  (Need (((([], ([], ((Option.some ((3, 1), (0, (0, 0)))), ([], ([], ()))))) : den qt4) = ([], ([], ((Option.some ((3, 1), (0, (0, 0)))), ([], ([], ())))))) ∧ (((List.length z29) = (List.length z29)) ∧ (((List.length z31) = (List.length z31)) ∧ ((List.length z33) = (List.length z33))))) ∧
  ((y19 (z21 + (1 : Int)) (z22 ++ [(((cut [(97 : Int), (98 : Int), (99 : Int), (100 : Int), (101 : Int)] (Int.toNat z21) (Int.toNat (z21 + (1 : Int)))), (((cut [(97 : Int), (98 : Int), (99 : Int), (100 : Int), (101 : Int)] (Int.toNat z21) (Int.toNat (z21 + (1 : Int)))), ([], (false, ()))), ())) : List Int × (List Int × List Int × Bool × Unit) × Unit)]) z23 ((Int.toNat z24) : Int) ((Int.toNat z25) : Int) z26 z27 ((Int.toNat z28) : Int) z29 ((Int.toNat z30) : Int) z31 ((Int.toNat z32) : Int) z33) ∧
  Need ((y20 (z21 + (1 : Int)) (z22 ++ [(((cut [(97 : Int), (98 : Int), (99 : Int), (100 : Int), (101 : Int)] (Int.toNat z21) (Int.toNat (z21 + (1 : Int)))), (((cut [(97 : Int), (98 : Int), (99 : Int), (100 : Int), (101 : Int)] (Int.toNat z21) (Int.toNat (z21 + (1 : Int)))), ([], (false, ()))), ())) : List Int × (List Int × List Int × Bool × Unit) × Unit)]) z23 ((Int.toNat z24) : Int) ((Int.toNat z25) : Int) z26 z27 ((Int.toNat z28) : Int) z29 ((Int.toNat z30) : Int) z31 ((Int.toNat z32) : Int) z33) < (y20 z21 z22 z23 z24 z25 z26 z27 z28 z29 z30 z31 z32 z33))))))))))) ∧
 (((decide (z21 < ((Int.tmod x0_0 (5 : Int)) + (1 : Int)))) = false) →
 (∃ y41 : (Int → (qT9 → ((List qT5) → (Int → (Int → (qT2 → (qT6 → (Int → (qT3 → (Int → (qT3 → (Int → (qT3 → Prop))))))))))))),
 (∃ y42 : (Int → (qT9 → ((List qT5) → (Int → (Int → (qT2 → (qT6 → (Int → (qT3 → (Int → (qT3 → (Int → (qT3 → Nat))))))))))))),
 (Need (((List.length z29) = (List.length z29)) ∧ (((List.length z31) = (List.length z31)) ∧ ((List.length z33) = (List.length z33)))) ∧
 ((y41 (0 : Int) z22 z23 ((Int.toNat z24) : Int) ((Int.toNat z25) : Int) z26 z27 ((Int.toNat z28) : Int) z29 ((Int.toNat z30) : Int) z31 ((Int.toNat z32) : Int) z33) ∧
 (∀ z43 : Int,
 (∀ z44 : qT9,
 (∀ z45 : (List qT5),
 (∀ z46 : Int,
 (∀ z47 : Int,
 (∀ z48 : qT2,
 (∀ z49 : qT6,
 (∀ z50 : Int,
 (∀ z51 : qT3,
 (∀ z52 : Int,
 (∀ z53 : qT3,
 (∀ z54 : Int,
 (∀ z55 : qT3,
 ((y41 z43 z44 z45 z46 z47 z48 z49 z50 z51 z52 z53 z54 z55) →
 ((((decide (z43 < ((List.length x0_2) : Int))) = true) →
  (Need (((0 : Int) ≤ z43) ∧ (z43 < ((List.length x0_2) : Int))) ∧
  (Need (((-9223372036854775808 : Int) ≤ (List.getD x0_2 (Int.toNat z43) (0 : Int))) ∧ ((List.getD x0_2 (Int.toNat z43) (0 : Int)) ≤ (9223372036854775807 : Int))) ∧
  (Need (((Int.tmod x0_1 (4 : Int)) + (1 : Int)) ≠ (0 : Int)) ∧
  (Need (¬ ((IntKind.i64 = IntKind.u8) ∧ (¬ (((0 : Int) ≤ (List.getD x0_2 (Int.toNat z43) (0 : Int))) ∧ (((List.getD x0_2 (Int.toNat z43) (0 : Int)) < (256 : Int)) ∧ ((0 : Int) < ((Int.tmod x0_1 (4 : Int)) + (1 : Int)))))))) ∧
  (Need (((0 : Int) ≤ z43) ∧ (z43 < ((List.length x0_2) : Int))) ∧
  (Need (((-9223372036854775808 : Int) ≤ (List.getD x0_2 (Int.toNat z43) (0 : Int))) ∧ ((List.getD x0_2 (Int.toNat z43) (0 : Int)) ≤ (9223372036854775807 : Int))) ∧
  (Need (((Int.tmod x0_1 (4 : Int)) + (1 : Int)) ≠ (0 : Int)) ∧
  (Need (¬ ((IntKind.i64 = IntKind.u8) ∧ (¬ (((0 : Int) ≤ (List.getD x0_2 (Int.toNat z43) (0 : Int))) ∧ (((List.getD x0_2 (Int.toNat z43) (0 : Int)) < (256 : Int)) ∧ ((0 : Int) < ((Int.tmod x0_1 (4 : Int)) + (1 : Int)))))))) ∧
  (Need (((-9223372036854775808 : Int) ≤ ((Int.tmod (List.getD x0_2 (Int.toNat z43) (0 : Int)) ((Int.tmod x0_1 (4 : Int)) + (1 : Int))) + (1 : Int))) ∧ (((Int.tmod (List.getD x0_2 (Int.toNat z43) (0 : Int)) ((Int.tmod x0_1 (4 : Int)) + (1 : Int))) + (1 : Int)) ≤ (9223372036854775807 : Int))) ∧
  (Need (((0 : Int) ≤ (Int.tmod (List.getD x0_2 (Int.toNat z43) (0 : Int)) ((Int.tmod x0_1 (4 : Int)) + (1 : Int)))) ∧ (((Int.tmod (List.getD x0_2 (Int.toNat z43) (0 : Int)) ((Int.tmod x0_1 (4 : Int)) + (1 : Int))) ≤ ((Int.tmod (List.getD x0_2 (Int.toNat z43) (0 : Int)) ((Int.tmod x0_1 (4 : Int)) + (1 : Int))) + (1 : Int))) ∧ (((Int.tmod (List.getD x0_2 (Int.toNat z43) (0 : Int)) ((Int.tmod x0_1 (4 : Int)) + (1 : Int))) + (1 : Int)) ≤ (4 : Int)))) ∧
  ((((decide (z43 < ((List.length x0_3) : Int))) = true) →
   (∃ y59 : (Int → (qT2 → (qT7 → (qT2 → (qT2 → (qT9 → ((List qT5) → (Int → (Int → (qT2 → (qT6 → (Int → (qT3 → (Int → (qT3 → (Int → (qT3 → Prop))))))))))))))))),
   (∃ y60 : (Int → (qT2 → (qT7 → (qT2 → (qT2 → (qT9 → ((List qT5) → (Int → (Int → (qT2 → (qT6 → (Int → (qT3 → (Int → (qT3 → (Int → (qT3 → Nat))))))))))))))))),
   (Need (((List.length z51) = (List.length z51)) ∧ (((List.length z53) = (List.length z53)) ∧ ((List.length z55) = (List.length z55)))) ∧
   ((y59 (0 : Int) (cut [(83 : Int), (84 : Int), (85 : Int), (86 : Int)] (Int.toNat (Int.tmod (List.getD x0_2 (Int.toNat z43) (0 : Int)) ((Int.tmod x0_1 (4 : Int)) + (1 : Int)))) (Int.toNat ((Int.tmod (List.getD x0_2 (Int.toNat z43) (0 : Int)) ((Int.tmod x0_1 (4 : Int)) + (1 : Int))) + (1 : Int)))) [] [] [] z44 z45 ((Int.toNat z46) : Int) ((Int.toNat z47) : Int) z48 z49 ((Int.toNat z50) : Int) z51 ((Int.toNat z52) : Int) z53 ((Int.toNat z54) : Int) z55) ∧
   (∀ z61 : Int,
   (∀ z62 : qT2,
   (∀ z63 : qT7,
   (∀ z64 : qT2,
   (∀ z65 : qT2,
   (∀ z66 : qT9,
   (∀ z67 : (List qT5),
   (∀ z68 : Int,
   (∀ z69 : Int,
   (∀ z70 : qT2,
   (∀ z71 : qT6,
   (∀ z72 : Int,
   (∀ z73 : qT3,
   (∀ z74 : Int,
   (∀ z75 : qT3,
   (∀ z76 : Int,
   (∀ z77 : qT3,
   ((y59 z61 z62 z63 z64 z65 z66 z67 z68 z69 z70 z71 z72 z73 z74 z75 z76 z77) →
   (Need (((0 : Int) ≤ z43) ∧ (z43 < ((List.length x0_3) : Int))) ∧
   ((((decide (z61 < ((List.length (List.getD x0_3 (Int.toNat z43) [])) : Int))) = true) →
    (Need (((0 : Int) ≤ z43) ∧ (z43 < ((List.length x0_3) : Int))) ∧
    (Need (((0 : Int) ≤ z61) ∧ (z61 < ((List.length (List.getD x0_3 (Int.toNat z43) [])) : Int))) ∧
    (Need (((-9223372036854775808 : Int) ≤ (List.getD (List.getD x0_3 (Int.toNat z43) []) (Int.toNat z61) (0 : Int))) ∧ ((List.getD (List.getD x0_3 (Int.toNat z43) []) (Int.toNat z61) (0 : Int)) ≤ (9223372036854775807 : Int))) ∧
    (Need (((-9223372036854775808 : Int) ≤ (((Int.tmod x0_0 (5 : Int)) + (1 : Int)) + ((Int.tmod x0_1 (4 : Int)) + (1 : Int)))) ∧ ((((Int.tmod x0_0 (5 : Int)) + (1 : Int)) + ((Int.tmod x0_1 (4 : Int)) + (1 : Int))) ≤ (9223372036854775807 : Int))) ∧
    (Need ((((Int.tmod x0_0 (5 : Int)) + (1 : Int)) + ((Int.tmod x0_1 (4 : Int)) + (1 : Int))) ≠ (0 : Int)) ∧
    (Need (¬ ((IntKind.i64 = IntKind.u8) ∧ (¬ (((0 : Int) ≤ (List.getD (List.getD x0_3 (Int.toNat z43) []) (Int.toNat z61) (0 : Int))) ∧ (((List.getD (List.getD x0_3 (Int.toNat z43) []) (Int.toNat z61) (0 : Int)) < (256 : Int)) ∧ ((0 : Int) < (((Int.tmod x0_0 (5 : Int)) + (1 : Int)) + ((Int.tmod x0_1 (4 : Int)) + (1 : Int))))))))) ∧
    (Need ((5 : Int) ≠ (0 : Int)) ∧
    (Need (¬ ((IntKind.i64 = IntKind.u8) ∧ (¬ (((0 : Int) ≤ (Int.tmod (List.getD (List.getD x0_3 (Int.toNat z43) []) (Int.toNat z61) (0 : Int)) (((Int.tmod x0_0 (5 : Int)) + (1 : Int)) + ((Int.tmod x0_1 (4 : Int)) + (1 : Int))))) ∧ (((Int.tmod (List.getD (List.getD x0_3 (Int.toNat z43) []) (Int.toNat z61) (0 : Int)) (((Int.tmod x0_0 (5 : Int)) + (1 : Int)) + ((Int.tmod x0_1 (4 : Int)) + (1 : Int)))) < (256 : Int)) ∧ ((0 : Int) < (5 : Int))))))) ∧
    (Need ((5 : Int) ≠ (0 : Int)) ∧
    (Need (¬ ((IntKind.i64 = IntKind.u8) ∧ (¬ (((0 : Int) ≤ (Int.tmod (List.getD (List.getD x0_3 (Int.toNat z43) []) (Int.toNat z61) (0 : Int)) (((Int.tmod x0_0 (5 : Int)) + (1 : Int)) + ((Int.tmod x0_1 (4 : Int)) + (1 : Int))))) ∧ (((Int.tmod (List.getD (List.getD x0_3 (Int.toNat z43) []) (Int.toNat z61) (0 : Int)) (((Int.tmod x0_0 (5 : Int)) + (1 : Int)) + ((Int.tmod x0_1 (4 : Int)) + (1 : Int)))) < (256 : Int)) ∧ ((0 : Int) < (5 : Int))))))) ∧
    (Need (((-9223372036854775808 : Int) ≤ ((Int.tmod (Int.tmod (List.getD (List.getD x0_3 (Int.toNat z43) []) (Int.toNat z61) (0 : Int)) (((Int.tmod x0_0 (5 : Int)) + (1 : Int)) + ((Int.tmod x0_1 (4 : Int)) + (1 : Int)))) (5 : Int)) + (1 : Int))) ∧ (((Int.tmod (Int.tmod (List.getD (List.getD x0_3 (Int.toNat z43) []) (Int.toNat z61) (0 : Int)) (((Int.tmod x0_0 (5 : Int)) + (1 : Int)) + ((Int.tmod x0_1 (4 : Int)) + (1 : Int)))) (5 : Int)) + (1 : Int)) ≤ (9223372036854775807 : Int))) ∧
    (Need (((0 : Int) ≤ (Int.tmod (Int.tmod (List.getD (List.getD x0_3 (Int.toNat z43) []) (Int.toNat z61) (0 : Int)) (((Int.tmod x0_0 (5 : Int)) + (1 : Int)) + ((Int.tmod x0_1 (4 : Int)) + (1 : Int)))) (5 : Int))) ∧ (((Int.tmod (Int.tmod (List.getD (List.getD x0_3 (Int.toNat z43) []) (Int.toNat z61) (0 : Int)) (((Int.tmod x0_0 (5 : Int)) + (1 : Int)) + ((Int.tmod x0_1 (4 : Int)) + (1 : Int)))) (5 : Int)) ≤ ((Int.tmod (Int.tmod (List.getD (List.getD x0_3 (Int.toNat z43) []) (Int.toNat z61) (0 : Int)) (((Int.tmod x0_0 (5 : Int)) + (1 : Int)) + ((Int.tmod x0_1 (4 : Int)) + (1 : Int)))) (5 : Int)) + (1 : Int))) ∧ (((Int.tmod (Int.tmod (List.getD (List.getD x0_3 (Int.toNat z43) []) (Int.toNat z61) (0 : Int)) (((Int.tmod x0_0 (5 : Int)) + (1 : Int)) + ((Int.tmod x0_1 (4 : Int)) + (1 : Int)))) (5 : Int)) + (1 : Int)) ≤ (5 : Int)))) ∧
    ((((decide (((Int.tmod x0_0 (5 : Int)) + (1 : Int)) ≤ (Int.tmod (List.getD (List.getD x0_3 (Int.toNat z43) []) (Int.toNat z61) (0 : Int)) (((Int.tmod x0_0 (5 : Int)) + (1 : Int)) + ((Int.tmod x0_1 (4 : Int)) + (1 : Int)))))) = true) →
     (Need (((-9223372036854775808 : Int) ≤ ((Int.tmod (List.getD (List.getD x0_3 (Int.toNat z43) []) (Int.toNat z61) (0 : Int)) (((Int.tmod x0_0 (5 : Int)) + (1 : Int)) + ((Int.tmod x0_1 (4 : Int)) + (1 : Int)))) - ((Int.tmod x0_0 (5 : Int)) + (1 : Int)))) ∧ (((Int.tmod (List.getD (List.getD x0_3 (Int.toNat z43) []) (Int.toNat z61) (0 : Int)) (((Int.tmod x0_0 (5 : Int)) + (1 : Int)) + ((Int.tmod x0_1 (4 : Int)) + (1 : Int)))) - ((Int.tmod x0_0 (5 : Int)) + (1 : Int))) ≤ (9223372036854775807 : Int))) ∧
     (Need (((-9223372036854775808 : Int) ≤ ((Int.tmod (List.getD (List.getD x0_3 (Int.toNat z43) []) (Int.toNat z61) (0 : Int)) (((Int.tmod x0_0 (5 : Int)) + (1 : Int)) + ((Int.tmod x0_1 (4 : Int)) + (1 : Int)))) - ((Int.tmod x0_0 (5 : Int)) + (1 : Int)))) ∧ (((Int.tmod (List.getD (List.getD x0_3 (Int.toNat z43) []) (Int.toNat z61) (0 : Int)) (((Int.tmod x0_0 (5 : Int)) + (1 : Int)) + ((Int.tmod x0_1 (4 : Int)) + (1 : Int)))) - ((Int.tmod x0_0 (5 : Int)) + (1 : Int))) ≤ (9223372036854775807 : Int))) ∧
     (Need (((-9223372036854775808 : Int) ≤ (((Int.tmod (List.getD (List.getD x0_3 (Int.toNat z43) []) (Int.toNat z61) (0 : Int)) (((Int.tmod x0_0 (5 : Int)) + (1 : Int)) + ((Int.tmod x0_1 (4 : Int)) + (1 : Int)))) - ((Int.tmod x0_0 (5 : Int)) + (1 : Int))) + (1 : Int))) ∧ ((((Int.tmod (List.getD (List.getD x0_3 (Int.toNat z43) []) (Int.toNat z61) (0 : Int)) (((Int.tmod x0_0 (5 : Int)) + (1 : Int)) + ((Int.tmod x0_1 (4 : Int)) + (1 : Int)))) - ((Int.tmod x0_0 (5 : Int)) + (1 : Int))) + (1 : Int)) ≤ (9223372036854775807 : Int))) ∧
     (Need (((0 : Int) ≤ ((Int.tmod (List.getD (List.getD x0_3 (Int.toNat z43) []) (Int.toNat z61) (0 : Int)) (((Int.tmod x0_0 (5 : Int)) + (1 : Int)) + ((Int.tmod x0_1 (4 : Int)) + (1 : Int)))) - ((Int.tmod x0_0 (5 : Int)) + (1 : Int)))) ∧ ((((Int.tmod (List.getD (List.getD x0_3 (Int.toNat z43) []) (Int.toNat z61) (0 : Int)) (((Int.tmod x0_0 (5 : Int)) + (1 : Int)) + ((Int.tmod x0_1 (4 : Int)) + (1 : Int)))) - ((Int.tmod x0_0 (5 : Int)) + (1 : Int))) ≤ (((Int.tmod (List.getD (List.getD x0_3 (Int.toNat z43) []) (Int.toNat z61) (0 : Int)) (((Int.tmod x0_0 (5 : Int)) + (1 : Int)) + ((Int.tmod x0_1 (4 : Int)) + (1 : Int)))) - ((Int.tmod x0_0 (5 : Int)) + (1 : Int))) + (1 : Int))) ∧ ((((Int.tmod (List.getD (List.getD x0_3 (Int.toNat z43) []) (Int.toNat z61) (0 : Int)) (((Int.tmod x0_0 (5 : Int)) + (1 : Int)) + ((Int.tmod x0_1 (4 : Int)) + (1 : Int)))) - ((Int.tmod x0_0 (5 : Int)) + (1 : Int))) + (1 : Int)) ≤ (4 : Int)))) ∧
     (Need (((List.length z63) + (List.length [(cut [(83 : Int), (84 : Int), (85 : Int), (86 : Int)] (Int.toNat ((Int.tmod (List.getD (List.getD x0_3 (Int.toNat z43) []) (Int.toNat z61) (0 : Int)) (((Int.tmod x0_0 (5 : Int)) + (1 : Int)) + ((Int.tmod x0_1 (4 : Int)) + (1 : Int)))) - ((Int.tmod x0_0 (5 : Int)) + (1 : Int)))) (Int.toNat (((Int.tmod (List.getD (List.getD x0_3 (Int.toNat z43) []) (Int.toNat z61) (0 : Int)) (((Int.tmod x0_0 (5 : Int)) + (1 : Int)) + ((Int.tmod x0_1 (4 : Int)) + (1 : Int)))) - ((Int.tmod x0_0 (5 : Int)) + (1 : Int))) + (1 : Int))))])) ≤ bigN) ∧
     (Need (((-9223372036854775808 : Int) ≤ (z61 + (1 : Int))) ∧ ((z61 + (1 : Int)) ≤ (9223372036854775807 : Int))) ∧
     (Need (((([], ([], ((Option.some ((3, 1), (0, (0, 0)))), ([], ([], ()))))) : den qt4) = ([], ([], ((Option.some ((3, 1), (0, (0, 0)))), ([], ([], ())))))) ∧ (((List.length z73) = (List.length z73)) ∧ (((List.length z75) = (List.length z75)) ∧ ((List.length z77) = (List.length z77))))) ∧
     ((y59 (z61 + (1 : Int)) z62 (z63 ++ [(cut [(83 : Int), (84 : Int), (85 : Int), (86 : Int)] (Int.toNat ((Int.tmod (List.getD (List.getD x0_3 (Int.toNat z43) []) (Int.toNat z61) (0 : Int)) (((Int.tmod x0_0 (5 : Int)) + (1 : Int)) + ((Int.tmod x0_1 (4 : Int)) + (1 : Int)))) - ((Int.tmod x0_0 (5 : Int)) + (1 : Int)))) (Int.toNat (((Int.tmod (List.getD (List.getD x0_3 (Int.toNat z43) []) (Int.toNat z61) (0 : Int)) (((Int.tmod x0_0 (5 : Int)) + (1 : Int)) + ((Int.tmod x0_1 (4 : Int)) + (1 : Int)))) - ((Int.tmod x0_0 (5 : Int)) + (1 : Int))) + (1 : Int))))]) z64 z65 z66 z67 ((Int.toNat z68) : Int) ((Int.toNat z69) : Int) z70 z71 ((Int.toNat z72) : Int) z73 ((Int.toNat z74) : Int) z75 ((Int.toNat z76) : Int) z77) ∧
     Need ((y60 (z61 + (1 : Int)) z62 (z63 ++ [(cut [(83 : Int), (84 : Int), (85 : Int), (86 : Int)] (Int.toNat ((Int.tmod (List.getD (List.getD x0_3 (Int.toNat z43) []) (Int.toNat z61) (0 : Int)) (((Int.tmod x0_0 (5 : Int)) + (1 : Int)) + ((Int.tmod x0_1 (4 : Int)) + (1 : Int)))) - ((Int.tmod x0_0 (5 : Int)) + (1 : Int)))) (Int.toNat (((Int.tmod (List.getD (List.getD x0_3 (Int.toNat z43) []) (Int.toNat z61) (0 : Int)) (((Int.tmod x0_0 (5 : Int)) + (1 : Int)) + ((Int.tmod x0_1 (4 : Int)) + (1 : Int)))) - ((Int.tmod x0_0 (5 : Int)) + (1 : Int))) + (1 : Int))))]) z64 z65 z66 z67 ((Int.toNat z68) : Int) ((Int.toNat z69) : Int) z70 z71 ((Int.toNat z72) : Int) z73 ((Int.toNat z74) : Int) z75 ((Int.toNat z76) : Int) z77) < (y60 z61 z62 z63 z64 z65 z66 z67 z68 z69 z70 z71 z72 z73 z74 z75 z76 z77))))))))))) ∧
    (((decide (((Int.tmod x0_0 (5 : Int)) + (1 : Int)) ≤ (Int.tmod (List.getD (List.getD x0_3 (Int.toNat z43) []) (Int.toNat z61) (0 : Int)) (((Int.tmod x0_0 (5 : Int)) + (1 : Int)) + ((Int.tmod x0_1 (4 : Int)) + (1 : Int)))))) = false) →
    (Need (((List.length z63) + (List.length [(cut [(97 : Int), (98 : Int), (99 : Int), (100 : Int), (101 : Int)] (Int.toNat (Int.tmod (Int.tmod (List.getD (List.getD x0_3 (Int.toNat z43) []) (Int.toNat z61) (0 : Int)) (((Int.tmod x0_0 (5 : Int)) + (1 : Int)) + ((Int.tmod x0_1 (4 : Int)) + (1 : Int)))) (5 : Int))) (Int.toNat ((Int.tmod (Int.tmod (List.getD (List.getD x0_3 (Int.toNat z43) []) (Int.toNat z61) (0 : Int)) (((Int.tmod x0_0 (5 : Int)) + (1 : Int)) + ((Int.tmod x0_1 (4 : Int)) + (1 : Int)))) (5 : Int)) + (1 : Int))))])) ≤ bigN) ∧
    (Need (((-9223372036854775808 : Int) ≤ (z61 + (1 : Int))) ∧ ((z61 + (1 : Int)) ≤ (9223372036854775807 : Int))) ∧
    (Need (((([], ([], ((Option.some ((3, 1), (0, (0, 0)))), ([], ([], ()))))) : den qt4) = ([], ([], ((Option.some ((3, 1), (0, (0, 0)))), ([], ([], ())))))) ∧ (((List.length z73) = (List.length z73)) ∧ (((List.length z75) = (List.length z75)) ∧ ((List.length z77) = (List.length z77))))) ∧
    ((y59 (z61 + (1 : Int)) z62 (z63 ++ [(cut [(97 : Int), (98 : Int), (99 : Int), (100 : Int), (101 : Int)] (Int.toNat (Int.tmod (Int.tmod (List.getD (List.getD x0_3 (Int.toNat z43) []) (Int.toNat z61) (0 : Int)) (((Int.tmod x0_0 (5 : Int)) + (1 : Int)) + ((Int.tmod x0_1 (4 : Int)) + (1 : Int)))) (5 : Int))) (Int.toNat ((Int.tmod (Int.tmod (List.getD (List.getD x0_3 (Int.toNat z43) []) (Int.toNat z61) (0 : Int)) (((Int.tmod x0_0 (5 : Int)) + (1 : Int)) + ((Int.tmod x0_1 (4 : Int)) + (1 : Int)))) (5 : Int)) + (1 : Int))))]) z64 z65 z66 z67 ((Int.toNat z68) : Int) ((Int.toNat z69) : Int) z70 z71 ((Int.toNat z72) : Int) z73 ((Int.toNat z74) : Int) z75 ((Int.toNat z76) : Int) z77) ∧
    Need ((y60 (z61 + (1 : Int)) z62 (z63 ++ [(cut [(97 : Int), (98 : Int), (99 : Int), (100 : Int), (101 : Int)] (Int.toNat (Int.tmod (Int.tmod (List.getD (List.getD x0_3 (Int.toNat z43) []) (Int.toNat z61) (0 : Int)) (((Int.tmod x0_0 (5 : Int)) + (1 : Int)) + ((Int.tmod x0_1 (4 : Int)) + (1 : Int)))) (5 : Int))) (Int.toNat ((Int.tmod (Int.tmod (List.getD (List.getD x0_3 (Int.toNat z43) []) (Int.toNat z61) (0 : Int)) (((Int.tmod x0_0 (5 : Int)) + (1 : Int)) + ((Int.tmod x0_1 (4 : Int)) + (1 : Int)))) (5 : Int)) + (1 : Int))))]) z64 z65 z66 z67 ((Int.toNat z68) : Int) ((Int.toNat z69) : Int) z70 z71 ((Int.toNat z72) : Int) z73 ((Int.toNat z74) : Int) z75 ((Int.toNat z76) : Int) z77) < (y60 z61 z62 z63 z64 z65 z66 z67 z68 z69 z70 z71 z72 z73 z74 z75 z76 z77))))))))))))))))))))) ∧
   (((decide (z61 < ((List.length (List.getD x0_3 (Int.toNat z43) [])) : Int))) = false) →
   ((((decide (z43 < ((List.length x0_4) : Int))) = true) →
    (Need (((0 : Int) ≤ z43) ∧ (z43 < ((List.length x0_4) : Int))) ∧
    (Need (((-9223372036854775808 : Int) ≤ (List.getD x0_4 (Int.toNat z43) (0 : Int))) ∧ ((List.getD x0_4 (Int.toNat z43) (0 : Int)) ≤ (9223372036854775807 : Int))) ∧
    (Need (((-9223372036854775808 : Int) ≤ (((Int.toNat z69) : Int) + (1 : Int))) ∧ ((((Int.toNat z69) : Int) + (1 : Int)) ≤ (9223372036854775807 : Int))) ∧
    (Need ((((Int.toNat z69) : Int) + (1 : Int)) ≠ (0 : Int)) ∧
    (Need (¬ ((IntKind.i64 = IntKind.u8) ∧ (¬ (((0 : Int) ≤ (List.getD x0_4 (Int.toNat z43) (0 : Int))) ∧ (((List.getD x0_4 (Int.toNat z43) (0 : Int)) < (256 : Int)) ∧ ((0 : Int) < (((Int.toNat z69) : Int) + (1 : Int)))))))) ∧
    ((((decide ((0 : Int) < (Int.tmod (List.getD x0_4 (Int.toNat z43) (0 : Int)) (((Int.toNat z69) : Int) + (1 : Int))))) = true) →
     (Need (((-9223372036854775808 : Int) ≤ ((Int.tmod (List.getD x0_4 (Int.toNat z43) (0 : Int)) (((Int.toNat z69) : Int) + (1 : Int))) - (1 : Int))) ∧ (((Int.tmod (List.getD x0_4 (Int.toNat z43) (0 : Int)) (((Int.toNat z69) : Int) + (1 : Int))) - (1 : Int)) ≤ (9223372036854775807 : Int))) ∧
     (Need (((0 : Int) ≤ ((Int.tmod (List.getD x0_4 (Int.toNat z43) (0 : Int)) (((Int.toNat z69) : Int) + (1 : Int))) - (1 : Int))) ∧ ((((Int.tmod (List.getD x0_4 (Int.toNat z43) (0 : Int)) (((Int.toNat z69) : Int) + (1 : Int))) - (1 : Int)) ≤ (Int.tmod (List.getD x0_4 (Int.toNat z43) (0 : Int)) (((Int.toNat z69) : Int) + (1 : Int)))) ∧ ((Int.tmod (List.getD x0_4 (Int.toNat z43) (0 : Int)) (((Int.toNat z69) : Int) + (1 : Int))) ≤ (5 : Int)))) ∧
     (Need (((List.length z71) + (List.length [(z62, (z63, ((cut [(112 : Int), (113 : Int), (114 : Int), (115 : Int), (116 : Int)] (Int.toNat ((Int.tmod (List.getD x0_4 (Int.toNat z43) (0 : Int)) (((Int.toNat z69) : Int) + (1 : Int))) - (1 : Int))) (Int.toNat (Int.tmod (List.getD x0_4 (Int.toNat z43) (0 : Int)) (((Int.toNat z69) : Int) + (1 : Int))))), (z65, ()))))])) ≤ bigN) ∧
     (Need (((-9223372036854775808 : Int) ≤ (z43 + (1 : Int))) ∧ ((z43 + (1 : Int)) ≤ (9223372036854775807 : Int))) ∧
     (Need (((([], ([], ((Option.some ((3, 1), (0, (0, 0)))), ([], ([], ()))))) : den qt4) = ([], ([], ((Option.some ((3, 1), (0, (0, 0)))), ([], ([], ())))))) ∧ (((List.length z73) = (List.length z73)) ∧ (((List.length z75) = (List.length z75)) ∧ ((List.length z77) = (List.length z77))))) ∧
     ((y41 (z43 + (1 : Int)) z66 z67 ((Int.toNat z68) : Int) ((Int.toNat z69) : Int) z70 (z71 ++ [(z62, (z63, ((cut [(112 : Int), (113 : Int), (114 : Int), (115 : Int), (116 : Int)] (Int.toNat ((Int.tmod (List.getD x0_4 (Int.toNat z43) (0 : Int)) (((Int.toNat z69) : Int) + (1 : Int))) - (1 : Int))) (Int.toNat (Int.tmod (List.getD x0_4 (Int.toNat z43) (0 : Int)) (((Int.toNat z69) : Int) + (1 : Int))))), (z65, ()))))]) ((Int.toNat z72) : Int) z73 ((Int.toNat z74) : Int) z75 ((Int.toNat z76) : Int) z77) ∧
     Need ((y42 (z43 + (1 : Int)) z66 z67 ((Int.toNat z68) : Int) ((Int.toNat z69) : Int) z70 (z71 ++ [(z62, (z63, ((cut [(112 : Int), (113 : Int), (114 : Int), (115 : Int), (116 : Int)] (Int.toNat ((Int.tmod (List.getD x0_4 (Int.toNat z43) (0 : Int)) (((Int.toNat z69) : Int) + (1 : Int))) - (1 : Int))) (Int.toNat (Int.tmod (List.getD x0_4 (Int.toNat z43) (0 : Int)) (((Int.toNat z69) : Int) + (1 : Int))))), (z65, ()))))]) ((Int.toNat z72) : Int) z73 ((Int.toNat z74) : Int) z75 ((Int.toNat z76) : Int) z77) < (y42 z43 z44 z45 z46 z47 z48 z49 z50 z51 z52 z53 z54 z55))))))))) ∧
    (((decide ((0 : Int) < (Int.tmod (List.getD x0_4 (Int.toNat z43) (0 : Int)) (((Int.toNat z69) : Int) + (1 : Int))))) = false) →
    (Need (((List.length z71) + (List.length [(z62, (z63, (z64, (z65, ()))))])) ≤ bigN) ∧
    (Need (((-9223372036854775808 : Int) ≤ (z43 + (1 : Int))) ∧ ((z43 + (1 : Int)) ≤ (9223372036854775807 : Int))) ∧
    (Need (((([], ([], ((Option.some ((3, 1), (0, (0, 0)))), ([], ([], ()))))) : den qt4) = ([], ([], ((Option.some ((3, 1), (0, (0, 0)))), ([], ([], ())))))) ∧ (((List.length z73) = (List.length z73)) ∧ (((List.length z75) = (List.length z75)) ∧ ((List.length z77) = (List.length z77))))) ∧
    ((y41 (z43 + (1 : Int)) z66 z67 ((Int.toNat z68) : Int) ((Int.toNat z69) : Int) z70 (z71 ++ [(z62, (z63, (z64, (z65, ()))))]) ((Int.toNat z72) : Int) z73 ((Int.toNat z74) : Int) z75 ((Int.toNat z76) : Int) z77) ∧
    Need ((y42 (z43 + (1 : Int)) z66 z67 ((Int.toNat z68) : Int) ((Int.toNat z69) : Int) z70 (z71 ++ [(z62, (z63, (z64, (z65, ()))))]) ((Int.toNat z72) : Int) z73 ((Int.toNat z74) : Int) z75 ((Int.toNat z76) : Int) z77) < (y42 z43 z44 z45 z46 z47 z48 z49 z50 z51 z52 z53 z54 z55)))))))))))))) ∧
   (((decide (z43 < ((List.length x0_4) : Int))) = false) →
   (Need (((List.length z71) + (List.length [(z62, (z63, (z64, (z65, ()))))])) ≤ bigN) ∧
   (Need (((-9223372036854775808 : Int) ≤ (z43 + (1 : Int))) ∧ ((z43 + (1 : Int)) ≤ (9223372036854775807 : Int))) ∧
   (Need (((([], ([], ((Option.some ((3, 1), (0, (0, 0)))), ([], ([], ()))))) : den qt4) = ([], ([], ((Option.some ((3, 1), (0, (0, 0)))), ([], ([], ())))))) ∧ (((List.length z73) = (List.length z73)) ∧ (((List.length z75) = (List.length z75)) ∧ ((List.length z77) = (List.length z77))))) ∧
   ((y41 (z43 + (1 : Int)) z66 z67 ((Int.toNat z68) : Int) ((Int.toNat z69) : Int) z70 (z71 ++ [(z62, (z63, (z64, (z65, ()))))]) ((Int.toNat z72) : Int) z73 ((Int.toNat z74) : Int) z75 ((Int.toNat z76) : Int) z77) ∧
   Need ((y42 (z43 + (1 : Int)) z66 z67 ((Int.toNat z68) : Int) ((Int.toNat z69) : Int) z70 (z71 ++ [(z62, (z63, (z64, (z65, ()))))]) ((Int.toNat z72) : Int) z73 ((Int.toNat z74) : Int) z75 ((Int.toNat z76) : Int) z77) < (y42 z43 z44 z45 z46 z47 z48 z49 z50 z51 z52 z53 z54 z55)))))))))))))))))))))))))))))))))) ∧
  (((decide (z43 < ((List.length x0_3) : Int))) = false) →
  ((((decide (z43 < ((List.length x0_4) : Int))) = true) →
   (Need (((0 : Int) ≤ z43) ∧ (z43 < ((List.length x0_4) : Int))) ∧
   (Need (((-9223372036854775808 : Int) ≤ (List.getD x0_4 (Int.toNat z43) (0 : Int))) ∧ ((List.getD x0_4 (Int.toNat z43) (0 : Int)) ≤ (9223372036854775807 : Int))) ∧
   (Need (((-9223372036854775808 : Int) ≤ (((Int.toNat z47) : Int) + (1 : Int))) ∧ ((((Int.toNat z47) : Int) + (1 : Int)) ≤ (9223372036854775807 : Int))) ∧
   (Need ((((Int.toNat z47) : Int) + (1 : Int)) ≠ (0 : Int)) ∧
   (Need (¬ ((IntKind.i64 = IntKind.u8) ∧ (¬ (((0 : Int) ≤ (List.getD x0_4 (Int.toNat z43) (0 : Int))) ∧ (((List.getD x0_4 (Int.toNat z43) (0 : Int)) < (256 : Int)) ∧ ((0 : Int) < (((Int.toNat z47) : Int) + (1 : Int)))))))) ∧
   ((((decide ((0 : Int) < (Int.tmod (List.getD x0_4 (Int.toNat z43) (0 : Int)) (((Int.toNat z47) : Int) + (1 : Int))))) = true) →
    (Need (((-9223372036854775808 : Int) ≤ ((Int.tmod (List.getD x0_4 (Int.toNat z43) (0 : Int)) (((Int.toNat z47) : Int) + (1 : Int))) - (1 : Int))) ∧ (((Int.tmod (List.getD x0_4 (Int.toNat z43) (0 : Int)) (((Int.toNat z47) : Int) + (1 : Int))) - (1 : Int)) ≤ (9223372036854775807 : Int))) ∧
    (Need (((0 : Int) ≤ ((Int.tmod (List.getD x0_4 (Int.toNat z43) (0 : Int)) (((Int.toNat z47) : Int) + (1 : Int))) - (1 : Int))) ∧ ((((Int.tmod (List.getD x0_4 (Int.toNat z43) (0 : Int)) (((Int.toNat z47) : Int) + (1 : Int))) - (1 : Int)) ≤ (Int.tmod (List.getD x0_4 (Int.toNat z43) (0 : Int)) (((Int.toNat z47) : Int) + (1 : Int)))) ∧ ((Int.tmod (List.getD x0_4 (Int.toNat z43) (0 : Int)) (((Int.toNat z47) : Int) + (1 : Int))) ≤ (5 : Int)))) ∧
    (Need (((List.length z49) + (List.length [(((cut [(83 : Int), (84 : Int), (85 : Int), (86 : Int)] (Int.toNat (Int.tmod (List.getD x0_2 (Int.toNat z43) (0 : Int)) ((Int.tmod x0_1 (4 : Int)) + (1 : Int)))) (Int.toNat ((Int.tmod (List.getD x0_2 (Int.toNat z43) (0 : Int)) ((Int.tmod x0_1 (4 : Int)) + (1 : Int))) + (1 : Int)))), ([], ((cut [(112 : Int), (113 : Int), (114 : Int), (115 : Int), (116 : Int)] (Int.toNat ((Int.tmod (List.getD x0_4 (Int.toNat z43) (0 : Int)) (((Int.toNat z47) : Int) + (1 : Int))) - (1 : Int))) (Int.toNat (Int.tmod (List.getD x0_4 (Int.toNat z43) (0 : Int)) (((Int.toNat z47) : Int) + (1 : Int))))), ([], ())))) : List Int × List qT2 × List Int × List Int × Unit)])) ≤ bigN) ∧
    (Need (((-9223372036854775808 : Int) ≤ (z43 + (1 : Int))) ∧ ((z43 + (1 : Int)) ≤ (9223372036854775807 : Int))) ∧
    (Need (((([], ([], ((Option.some ((3, 1), (0, (0, 0)))), ([], ([], ()))))) : den qt4) = ([], ([], ((Option.some ((3, 1), (0, (0, 0)))), ([], ([], ())))))) ∧ (((List.length z51) = (List.length z51)) ∧ (((List.length z53) = (List.length z53)) ∧ ((List.length z55) = (List.length z55))))) ∧
    ((y41 (z43 + (1 : Int)) z44 z45 ((Int.toNat z46) : Int) ((Int.toNat z47) : Int) z48 (z49 ++ [(((cut [(83 : Int), (84 : Int), (85 : Int), (86 : Int)] (Int.toNat (Int.tmod (List.getD x0_2 (Int.toNat z43) (0 : Int)) ((Int.tmod x0_1 (4 : Int)) + (1 : Int)))) (Int.toNat ((Int.tmod (List.getD x0_2 (Int.toNat z43) (0 : Int)) ((Int.tmod x0_1 (4 : Int)) + (1 : Int))) + (1 : Int)))), ([], ((cut [(112 : Int), (113 : Int), (114 : Int), (115 : Int), (116 : Int)] (Int.toNat ((Int.tmod (List.getD x0_4 (Int.toNat z43) (0 : Int)) (((Int.toNat z47) : Int) + (1 : Int))) - (1 : Int))) (Int.toNat (Int.tmod (List.getD x0_4 (Int.toNat z43) (0 : Int)) (((Int.toNat z47) : Int) + (1 : Int))))), ([], ())))) : List Int × List qT2 × List Int × List Int × Unit)]) ((Int.toNat z50) : Int) z51 ((Int.toNat z52) : Int) z53 ((Int.toNat z54) : Int) z55) ∧
    Need ((y42 (z43 + (1 : Int)) z44 z45 ((Int.toNat z46) : Int) ((Int.toNat z47) : Int) z48 (z49 ++ [(((cut [(83 : Int), (84 : Int), (85 : Int), (86 : Int)] (Int.toNat (Int.tmod (List.getD x0_2 (Int.toNat z43) (0 : Int)) ((Int.tmod x0_1 (4 : Int)) + (1 : Int)))) (Int.toNat ((Int.tmod (List.getD x0_2 (Int.toNat z43) (0 : Int)) ((Int.tmod x0_1 (4 : Int)) + (1 : Int))) + (1 : Int)))), ([], ((cut [(112 : Int), (113 : Int), (114 : Int), (115 : Int), (116 : Int)] (Int.toNat ((Int.tmod (List.getD x0_4 (Int.toNat z43) (0 : Int)) (((Int.toNat z47) : Int) + (1 : Int))) - (1 : Int))) (Int.toNat (Int.tmod (List.getD x0_4 (Int.toNat z43) (0 : Int)) (((Int.toNat z47) : Int) + (1 : Int))))), ([], ())))) : List Int × List qT2 × List Int × List Int × Unit)]) ((Int.toNat z50) : Int) z51 ((Int.toNat z52) : Int) z53 ((Int.toNat z54) : Int) z55) < (y42 z43 z44 z45 z46 z47 z48 z49 z50 z51 z52 z53 z54 z55))))))))) ∧
   (((decide ((0 : Int) < (Int.tmod (List.getD x0_4 (Int.toNat z43) (0 : Int)) (((Int.toNat z47) : Int) + (1 : Int))))) = false) →
   (Need (((List.length z49) + (List.length [(((cut [(83 : Int), (84 : Int), (85 : Int), (86 : Int)] (Int.toNat (Int.tmod (List.getD x0_2 (Int.toNat z43) (0 : Int)) ((Int.tmod x0_1 (4 : Int)) + (1 : Int)))) (Int.toNat ((Int.tmod (List.getD x0_2 (Int.toNat z43) (0 : Int)) ((Int.tmod x0_1 (4 : Int)) + (1 : Int))) + (1 : Int)))), ([], ([], ([], ())))) : List Int × List qT2 × List Int × List Int × Unit)])) ≤ bigN) ∧
   (Need (((-9223372036854775808 : Int) ≤ (z43 + (1 : Int))) ∧ ((z43 + (1 : Int)) ≤ (9223372036854775807 : Int))) ∧
   (Need (((([], ([], ((Option.some ((3, 1), (0, (0, 0)))), ([], ([], ()))))) : den qt4) = ([], ([], ((Option.some ((3, 1), (0, (0, 0)))), ([], ([], ())))))) ∧ (((List.length z51) = (List.length z51)) ∧ (((List.length z53) = (List.length z53)) ∧ ((List.length z55) = (List.length z55))))) ∧
   ((y41 (z43 + (1 : Int)) z44 z45 ((Int.toNat z46) : Int) ((Int.toNat z47) : Int) z48 (z49 ++ [(((cut [(83 : Int), (84 : Int), (85 : Int), (86 : Int)] (Int.toNat (Int.tmod (List.getD x0_2 (Int.toNat z43) (0 : Int)) ((Int.tmod x0_1 (4 : Int)) + (1 : Int)))) (Int.toNat ((Int.tmod (List.getD x0_2 (Int.toNat z43) (0 : Int)) ((Int.tmod x0_1 (4 : Int)) + (1 : Int))) + (1 : Int)))), ([], ([], ([], ())))) : List Int × List qT2 × List Int × List Int × Unit)]) ((Int.toNat z50) : Int) z51 ((Int.toNat z52) : Int) z53 ((Int.toNat z54) : Int) z55) ∧
   Need ((y42 (z43 + (1 : Int)) z44 z45 ((Int.toNat z46) : Int) ((Int.toNat z47) : Int) z48 (z49 ++ [(((cut [(83 : Int), (84 : Int), (85 : Int), (86 : Int)] (Int.toNat (Int.tmod (List.getD x0_2 (Int.toNat z43) (0 : Int)) ((Int.tmod x0_1 (4 : Int)) + (1 : Int)))) (Int.toNat ((Int.tmod (List.getD x0_2 (Int.toNat z43) (0 : Int)) ((Int.tmod x0_1 (4 : Int)) + (1 : Int))) + (1 : Int)))), ([], ([], ([], ())))) : List Int × List qT2 × List Int × List Int × Unit)]) ((Int.toNat z50) : Int) z51 ((Int.toNat z52) : Int) z53 ((Int.toNat z54) : Int) z55) < (y42 z43 z44 z45 z46 z47 z48 z49 z50 z51 z52 z53 z54 z55)))))))))))))) ∧
  (((decide (z43 < ((List.length x0_4) : Int))) = false) →
  (Need (((List.length z49) + (List.length [(((cut [(83 : Int), (84 : Int), (85 : Int), (86 : Int)] (Int.toNat (Int.tmod (List.getD x0_2 (Int.toNat z43) (0 : Int)) ((Int.tmod x0_1 (4 : Int)) + (1 : Int)))) (Int.toNat ((Int.tmod (List.getD x0_2 (Int.toNat z43) (0 : Int)) ((Int.tmod x0_1 (4 : Int)) + (1 : Int))) + (1 : Int)))), ([], ([], ([], ())))) : List Int × List qT2 × List Int × List Int × Unit)])) ≤ bigN) ∧
  (Need (((-9223372036854775808 : Int) ≤ (z43 + (1 : Int))) ∧ ((z43 + (1 : Int)) ≤ (9223372036854775807 : Int))) ∧
  (Need (((([], ([], ((Option.some ((3, 1), (0, (0, 0)))), ([], ([], ()))))) : den qt4) = ([], ([], ((Option.some ((3, 1), (0, (0, 0)))), ([], ([], ())))))) ∧ (((List.length z51) = (List.length z51)) ∧ (((List.length z53) = (List.length z53)) ∧ ((List.length z55) = (List.length z55))))) ∧
  ((y41 (z43 + (1 : Int)) z44 z45 ((Int.toNat z46) : Int) ((Int.toNat z47) : Int) z48 (z49 ++ [(((cut [(83 : Int), (84 : Int), (85 : Int), (86 : Int)] (Int.toNat (Int.tmod (List.getD x0_2 (Int.toNat z43) (0 : Int)) ((Int.tmod x0_1 (4 : Int)) + (1 : Int)))) (Int.toNat ((Int.tmod (List.getD x0_2 (Int.toNat z43) (0 : Int)) ((Int.tmod x0_1 (4 : Int)) + (1 : Int))) + (1 : Int)))), ([], ([], ([], ())))) : List Int × List qT2 × List Int × List Int × Unit)]) ((Int.toNat z50) : Int) z51 ((Int.toNat z52) : Int) z53 ((Int.toNat z54) : Int) z55) ∧
  Need ((y42 (z43 + (1 : Int)) z44 z45 ((Int.toNat z46) : Int) ((Int.toNat z47) : Int) z48 (z49 ++ [(((cut [(83 : Int), (84 : Int), (85 : Int), (86 : Int)] (Int.toNat (Int.tmod (List.getD x0_2 (Int.toNat z43) (0 : Int)) ((Int.tmod x0_1 (4 : Int)) + (1 : Int)))) (Int.toNat ((Int.tmod (List.getD x0_2 (Int.toNat z43) (0 : Int)) ((Int.tmod x0_1 (4 : Int)) + (1 : Int))) + (1 : Int)))), ([], ([], ([], ())))) : List Int × List qT2 × List Int × List Int × Unit)]) ((Int.toNat z50) : Int) z51 ((Int.toNat z52) : Int) z53 ((Int.toNat z54) : Int) z55) < (y42 z43 z44 z45 z46 z47 z48 z49 z50 z51 z52 z53 z54 z55))))))))))))))))))))) ∧
 (((decide (z43 < ((List.length x0_2) : Int))) = false) →
 (∃ y93 : (Int → (qT9 → ((List qT5) → (Int → (Int → (qT2 → (qT6 → (Int → (qT3 → (Int → (qT3 → (Int → (qT3 → Prop))))))))))))),
 (∃ y94 : (Int → (qT9 → ((List qT5) → (Int → (Int → (qT2 → (qT6 → (Int → (qT3 → (Int → (qT3 → (Int → (qT3 → Nat))))))))))))),
 (Need (((List.length z51) = (List.length z51)) ∧ (((List.length z53) = (List.length z53)) ∧ ((List.length z55) = (List.length z55)))) ∧
 ((y93 (0 : Int) z44 z45 ((Int.toNat z46) : Int) ((Int.toNat z47) : Int) z48 z49 ((Int.toNat z50) : Int) z51 ((Int.toNat z52) : Int) z53 ((Int.toNat z54) : Int) z55) ∧
 (∀ z95 : Int,
 (∀ z96 : qT9,
 (∀ z97 : (List qT5),
 (∀ z98 : Int,
 (∀ z99 : Int,
 (∀ z100 : qT2,
 (∀ z101 : qT6,
 (∀ z102 : Int,
 (∀ z103 : qT3,
 (∀ z104 : Int,
 (∀ z105 : qT3,
 (∀ z106 : Int,
 (∀ z107 : qT3,
 ((y93 z95 z96 z97 z98 z99 z100 z101 z102 z103 z104 z105 z106 z107) →
 ((((decide (z95 < ((Int.tmod x0_1 (4 : Int)) + (1 : Int)))) = true) →
  (Need (((-9223372036854775808 : Int) ≤ (z95 + (1 : Int))) ∧ ((z95 + (1 : Int)) ≤ (9223372036854775807 : Int))) ∧
  (Need (((0 : Int) ≤ z95) ∧ ((z95 ≤ (z95 + (1 : Int))) ∧ ((z95 + (1 : Int)) ≤ (4 : Int)))) ∧
  (∃ y110 : (Bool → (Int → (qT9 → ((List qT5) → (Int → (Int → (qT2 → (qT6 → (Int → (qT3 → (Int → (qT3 → (Int → (qT3 → Prop)))))))))))))),
  (∃ y111 : (Bool → (Int → (qT9 → ((List qT5) → (Int → (Int → (qT2 → (qT6 → (Int → (qT3 → (Int → (qT3 → (Int → (qT3 → Nat)))))))))))))),
  (Need (((List.length z103) = (List.length z103)) ∧ (((List.length z105) = (List.length z105)) ∧ ((List.length z107) = (List.length z107)))) ∧
  ((y110 false (0 : Int) z96 z97 ((Int.toNat z98) : Int) ((Int.toNat z99) : Int) z100 z101 ((Int.toNat z102) : Int) z103 ((Int.toNat z104) : Int) z105 ((Int.toNat z106) : Int) z107) ∧
  (∀ z112 : Bool,
  (∀ z113 : Int,
  (∀ z114 : qT9,
  (∀ z115 : (List qT5),
  (∀ z116 : Int,
  (∀ z117 : Int,
  (∀ z118 : qT2,
  (∀ z119 : qT6,
  (∀ z120 : Int,
  (∀ z121 : qT3,
  (∀ z122 : Int,
  (∀ z123 : qT3,
  (∀ z124 : Int,
  (∀ z125 : qT3,
  ((y110 z112 z113 z114 z115 z116 z117 z118 z119 z120 z121 z122 z123 z124 z125) →
  ((((decide (z113 < ((List.length z119) : Int))) = true) →
   (((z112 = true) →
    (Need (((-9223372036854775808 : Int) ≤ (z113 + (1 : Int))) ∧ ((z113 + (1 : Int)) ≤ (9223372036854775807 : Int))) ∧
    (Need (((([], ([], ((Option.some ((3, 1), (0, (0, 0)))), ([], ([], ()))))) : den qt4) = ([], ([], ((Option.some ((3, 1), (0, (0, 0)))), ([], ([], ())))))) ∧ (((List.length z121) = (List.length z121)) ∧ (((List.length z123) = (List.length z123)) ∧ ((List.length z125) = (List.length z125))))) ∧
    ((y110 true (z113 + (1 : Int)) z114 z115 ((Int.toNat z116) : Int) ((Int.toNat z117) : Int) z118 z119 ((Int.toNat z120) : Int) z121 ((Int.toNat z122) : Int) z123 ((Int.toNat z124) : Int) z125) ∧
    Need ((y111 true (z113 + (1 : Int)) z114 z115 ((Int.toNat z116) : Int) ((Int.toNat z117) : Int) z118 z119 ((Int.toNat z120) : Int) z121 ((Int.toNat z122) : Int) z123 ((Int.toNat z124) : Int) z125) < (y111 z112 z113 z114 z115 z116 z117 z118 z119 z120 z121 z122 z123 z124 z125)))))) ∧
   ((z112 = false) →
   (Need (((0 : Int) ≤ z113) ∧ (z113 < ((List.length z119) : Int))) ∧
   (Need (((-9223372036854775808 : Int) ≤ (z113 + (1 : Int))) ∧ ((z113 + (1 : Int)) ≤ (9223372036854775807 : Int))) ∧
   (Need (((([], ([], ((Option.some ((3, 1), (0, (0, 0)))), ([], ([], ()))))) : den qt4) = ([], ([], ((Option.some ((3, 1), (0, (0, 0)))), ([], ([], ())))))) ∧ (((List.length z121) = (List.length z121)) ∧ (((List.length z123) = (List.length z123)) ∧ ((List.length z125) = (List.length z125))))) ∧
   ((y110 (decide ((List.getD z119 (Int.toNat z113) ([], ([], ([], ([], ()))))).1 = (cut [(83 : Int), (84 : Int), (85 : Int), (86 : Int)] (Int.toNat z95) (Int.toNat (z95 + (1 : Int)))))) (z113 + (1 : Int)) z114 z115 ((Int.toNat z116) : Int) ((Int.toNat z117) : Int) z118 z119 ((Int.toNat z120) : Int) z121 ((Int.toNat z122) : Int) z123 ((Int.toNat z124) : Int) z125) ∧
   Need ((y111 (decide ((List.getD z119 (Int.toNat z113) ([], ([], ([], ([], ()))))).1 = (cut [(83 : Int), (84 : Int), (85 : Int), (86 : Int)] (Int.toNat z95) (Int.toNat (z95 + (1 : Int)))))) (z113 + (1 : Int)) z114 z115 ((Int.toNat z116) : Int) ((Int.toNat z117) : Int) z118 z119 ((Int.toNat z120) : Int) z121 ((Int.toNat z122) : Int) z123 ((Int.toNat z124) : Int) z125) < (y111 z112 z113 z114 z115 z116 z117 z118 z119 z120 z121 z122 z123 z124 z125))))))))) ∧
  (((decide (z113 < ((List.length z119) : Int))) = false) →
  ((((!z112) = true) →
   (Need (((List.length z119) + (List.length [(((cut [(83 : Int), (84 : Int), (85 : Int), (86 : Int)] (Int.toNat z95) (Int.toNat (z95 + (1 : Int)))), ([], ([], ([], ())))) : List Int × List qT2 × List Int × List Int × Unit)])) ≤ bigN) ∧
   (Need (((-9223372036854775808 : Int) ≤ (z95 + (1 : Int))) ∧ ((z95 + (1 : Int)) ≤ (9223372036854775807 : Int))) ∧
   (Need (((([], ([], ((Option.some ((3, 1), (0, (0, 0)))), ([], ([], ()))))) : den qt4) = ([], ([], ((Option.some ((3, 1), (0, (0, 0)))), ([], ([], ())))))) ∧ (((List.length z121) = (List.length z121)) ∧ (((List.length z123) = (List.length z123)) ∧ ((List.length z125) = (List.length z125))))) ∧
   ((y93 (z95 + (1 : Int)) z114 z115 ((Int.toNat z116) : Int) ((Int.toNat z117) : Int) z118 (z119 ++ [(((cut [(83 : Int), (84 : Int), (85 : Int), (86 : Int)] (Int.toNat z95) (Int.toNat (z95 + (1 : Int)))), ([], ([], ([], ())))) : List Int × List qT2 × List Int × List Int × Unit)]) ((Int.toNat z120) : Int) z121 ((Int.toNat z122) : Int) z123 ((Int.toNat z124) : Int) z125) ∧
   Need ((y94 (z95 + (1 : Int)) z114 z115 ((Int.toNat z116) : Int) ((Int.toNat z117) : Int) z118 (z119 ++ [(((cut [(83 : Int), (84 : Int), (85 : Int), (86 : Int)] (Int.toNat z95) (Int.toNat (z95 + (1 : Int)))), ([], ([], ([], ())))) : List Int × List qT2 × List Int × List Int × Unit)]) ((Int.toNat z120) : Int) z121 ((Int.toNat z122) : Int) z123 ((Int.toNat z124) : Int) z125) < (y94 z95 z96 z97 z98 z99 z100 z101 z102 z103 z104 z105 z106 z107))))))) ∧
  (((!z112) = false) →
  (Need (((-9223372036854775808 : Int) ≤ (z95 + (1 : Int))) ∧ ((z95 + (1 : Int)) ≤ (9223372036854775807 : Int))) ∧
  (Need (((([], ([], ((Option.some ((3, 1), (0, (0, 0)))), ([], ([], ()))))) : den qt4) = ([], ([], ((Option.some ((3, 1), (0, (0, 0)))), ([], ([], ())))))) ∧ (((List.length z121) = (List.length z121)) ∧ (((List.length z123) = (List.length z123)) ∧ ((List.length z125) = (List.length z125))))) ∧
  ((y93 (z95 + (1 : Int)) z114 z115 ((Int.toNat z116) : Int) ((Int.toNat z117) : Int) z118 z119 ((Int.toNat z120) : Int) z121 ((Int.toNat z122) : Int) z123 ((Int.toNat z124) : Int) z125) ∧
  Need ((y94 (z95 + (1 : Int)) z114 z115 ((Int.toNat z116) : Int) ((Int.toNat z117) : Int) z118 z119 ((Int.toNat z120) : Int) z121 ((Int.toNat z122) : Int) z123 ((Int.toNat z124) : Int) z125) < (y94 z95 z96 z97 z98 z99 z100 z101 z102 z103 z104 z105 z106 z107))))))))))))))))))))))))))))))) ∧
 (((decide (z95 < ((Int.tmod x0_1 (4 : Int)) + (1 : Int)))) = false) →
 (Q (.tv [] qt4 (z96, (z97, ((Option.some ((1, 0), ((Int.toNat z98), (0, (Int.toNat z99))))), (z100, (z101, ())))))) [((1, 0), ⟨⟨(.arr (Nat.succ (Int.toNat z104)) (List.length z105) qt11), z105⟩, []⟩)])))))))))))))))))))))))))))))))))))))))))))))))))))))))))))))))))))))))))))))))))))))))))) : EvF PP orc 50 [.tv [] qt7 (x0_0, (x0_1, (x0_2, (x0_3, (x0_4, (x0_5, (x0_6, ())))))))] [] Q := vcF_ok (sg := sg) (Eq.mp (by kernel_rfl) h)
end Go.Am.T
