/-
  A part of the proof of a law: see the text that states it.
-/
import Derived.Test.YtfnnapgpcndcjaaDoorHead
set_option linter.all false
namespace Go.Am.V
open Go
set_option maxRecDepth 100000
set_option maxHeartbeats 4000000
/-- tronage/tronageref22.bad -/
theorem vc24 (x0 : Int) (Q : AV → Heap → Prop) (h :
(Q (.tv [] (.pair (.int .i64) (.pair (.int .i64) .unit)) ((3 : Int), (x0, ()))) [])) : EvF PP orc 24 [.tv [] (.int .i64) x0] [] Q := vcF_ok (sg := sg) (Eq.mp (by kernel_rfl) h)
/-- tronage/tronageref22.number -/
theorem vc44 (x0 : Int) (Q : AV → Heap → Prop) (h :
(Q (.tv [] (.pair (.int .i64) (.pair (.int .i64) .unit)) ((1 : Int), ((IntKind.wrap .i64 x0), ()))) [])) : EvF PP orc 44 [.tv [] (.int .u64) x0] [] Q := vcF_ok (sg := sg) (Eq.mp (by kernel_rfl) h)
/-- tronage/tronageref22.two -/
theorem vc45 (x0 : Int) (x1_0 : Int) (x1_1 : Int) (x2_0 : Int) (x2_1 : Int) (Q : AV → Heap → Prop) (h :
((((decide (x1_0 = (3 : Int))) = true) →
  (Q (.tv [] (.pair (.int .i64) (.pair (.int .i64) .unit)) (x1_0, (x1_1, ()))) [])) ∧
 (((decide (x1_0 = (3 : Int))) = false) →
 ((((decide (x2_0 = (3 : Int))) = true) →
  (Q (.tv [] (.pair (.int .i64) (.pair (.int .i64) .unit)) (x2_0, (x2_1, ()))) [])) ∧
 (((decide (x2_0 = (3 : Int))) = false) →
 ((((decide (x1_0 ≠ (1 : Int))) = true) →
  (∃ y5 : Int,
  (∃ y6 : Int,
  (Need (E 24 [(.tv [] (.int .i64) (33 : Int))] [] (.tv [] (.pair (.int .i64) (.pair (.int .i64) .unit)) (y5, (y6, ()))) []) ∧
  (Q (.tv [] (.pair (.int .i64) (.pair (.int .i64) .unit)) (y5, (y6, ()))) []))))) ∧
 (((decide (x1_0 ≠ (1 : Int))) = false) →
 ((((decide (x2_0 ≠ (1 : Int))) = true) →
  (∃ y9 : Int,
  (∃ y10 : Int,
  (Need (E 24 [(.tv [] (.int .i64) (33 : Int))] [] (.tv [] (.pair (.int .i64) (.pair (.int .i64) .unit)) (y9, (y10, ()))) []) ∧
  (Q (.tv [] (.pair (.int .i64) (.pair (.int .i64) .unit)) (y9, (y10, ()))) []))))) ∧
 (((decide (x2_0 ≠ (1 : Int))) = false) →
 ((((decide (x0 = (5 : Int))) = true) →
  (∃ y13 : Int,
  (∃ y14 : Int,
  (Need (E 44 [(.tv [] (.int .u64) (IntKind.wrap .u64 ((IntKind.wrap .u64 x1_1) + (IntKind.wrap .u64 x2_1))))] [] (.tv [] (.pair (.int .i64) (.pair (.int .i64) .unit)) (y13, (y14, ()))) []) ∧
  (Q (.tv [] (.pair (.int .i64) (.pair (.int .i64) .unit)) (y13, (y14, ()))) []))))) ∧
 (((decide (x0 = (5 : Int))) = false) →
 ((((decide (x0 = (6 : Int))) = true) →
  (∃ y17 : Int,
  (∃ y18 : Int,
  (Need (E 44 [(.tv [] (.int .u64) (IntKind.wrap .u64 ((IntKind.wrap .u64 x1_1) - (IntKind.wrap .u64 x2_1))))] [] (.tv [] (.pair (.int .i64) (.pair (.int .i64) .unit)) (y17, (y18, ()))) []) ∧
  (Q (.tv [] (.pair (.int .i64) (.pair (.int .i64) .unit)) (y17, (y18, ()))) []))))) ∧
 (((decide (x0 = (6 : Int))) = false) →
 ((((decide (x0 = (7 : Int))) = true) →
  (∃ y21 : Int,
  (∃ y22 : Int,
  (Need (E 44 [(.tv [] (.int .u64) (IntKind.wrap .u64 ((IntKind.wrap .u64 x1_1) * (IntKind.wrap .u64 x2_1))))] [] (.tv [] (.pair (.int .i64) (.pair (.int .i64) .unit)) (y21, (y22, ()))) []) ∧
  (Q (.tv [] (.pair (.int .i64) (.pair (.int .i64) .unit)) (y21, (y22, ()))) []))))) ∧
 (((decide (x0 = (7 : Int))) = false) →
 ((((decide (x2_1 = (0 : Int))) = true) →
  (∃ y25 : Int,
  (∃ y26 : Int,
  (Need (E 24 [(.tv [] (.int .i64) (32 : Int))] [] (.tv [] (.pair (.int .i64) (.pair (.int .i64) .unit)) (y25, (y26, ()))) []) ∧
  (Q (.tv [] (.pair (.int .i64) (.pair (.int .i64) .unit)) (y25, (y26, ()))) []))))) ∧
 (((decide (x2_1 = (0 : Int))) = false) →
 ((((decide (x1_1 < (0 : Int))) = true) →
  ((((decide (x2_1 < (0 : Int))) = true) →
   (Need ((IntKind.wrap .u64 ((0 : Int) - (IntKind.wrap .u64 x2_1))) ≠ (0 : Int)) ∧
   (Need ((IntKind.wrap .u64 ((0 : Int) - (IntKind.wrap .u64 x2_1))) ≠ (0 : Int)) ∧
   (Need (¬ ((IntKind.u64 = IntKind.u8) ∧ (¬ (((0 : Int) ≤ (IntKind.wrap .u64 ((0 : Int) - (IntKind.wrap .u64 x1_1)))) ∧ (((IntKind.wrap .u64 ((0 : Int) - (IntKind.wrap .u64 x1_1))) < (256 : Int)) ∧ ((0 : Int) < (IntKind.wrap .u64 ((0 : Int) - (IntKind.wrap .u64 x2_1))))))))) ∧
   ((((decide (x0 = (9 : Int))) = true) →
    ((((decide (x1_1 < (0 : Int))) = true) →
     (∃ y32 : Int,
     (∃ y33 : Int,
     (Need (E 44 [(.tv [] (.int .u64) (IntKind.wrap .u64 ((0 : Int) - (Int.tmod (IntKind.wrap .u64 ((0 : Int) - (IntKind.wrap .u64 x1_1))) (IntKind.wrap .u64 ((0 : Int) - (IntKind.wrap .u64 x2_1)))))))] [] (.tv [] (.pair (.int .i64) (.pair (.int .i64) .unit)) (y32, (y33, ()))) []) ∧
     (Q (.tv [] (.pair (.int .i64) (.pair (.int .i64) .unit)) (y32, (y33, ()))) []))))) ∧
    (((decide (x1_1 < (0 : Int))) = false) →
    (∃ y35 : Int,
    (∃ y36 : Int,
    (Need (E 44 [(.tv [] (.int .u64) (Int.tmod (IntKind.wrap .u64 ((0 : Int) - (IntKind.wrap .u64 x1_1))) (IntKind.wrap .u64 ((0 : Int) - (IntKind.wrap .u64 x2_1)))))] [] (.tv [] (.pair (.int .i64) (.pair (.int .i64) .unit)) (y35, (y36, ()))) []) ∧
    (Q (.tv [] (.pair (.int .i64) (.pair (.int .i64) .unit)) (y35, (y36, ()))) []))))))) ∧
   (((decide (x0 = (9 : Int))) = false) →
   ((((!(BEq.beq (decide (x1_1 < (0 : Int))) (decide (x2_1 < (0 : Int))))) = true) →
    (∃ y39 : Int,
    (∃ y40 : Int,
    (Need (E 44 [(.tv [] (.int .u64) (IntKind.wrap .u64 ((0 : Int) - (IntKind.wrap .u64 (Int.tdiv (IntKind.wrap .u64 ((0 : Int) - (IntKind.wrap .u64 x1_1))) (IntKind.wrap .u64 ((0 : Int) - (IntKind.wrap .u64 x2_1))))))))] [] (.tv [] (.pair (.int .i64) (.pair (.int .i64) .unit)) (y39, (y40, ()))) []) ∧
    (Q (.tv [] (.pair (.int .i64) (.pair (.int .i64) .unit)) (y39, (y40, ()))) []))))) ∧
   (((!(BEq.beq (decide (x1_1 < (0 : Int))) (decide (x2_1 < (0 : Int))))) = false) →
   (∃ y42 : Int,
   (∃ y43 : Int,
   (Need (E 44 [(.tv [] (.int .u64) (IntKind.wrap .u64 (Int.tdiv (IntKind.wrap .u64 ((0 : Int) - (IntKind.wrap .u64 x1_1))) (IntKind.wrap .u64 ((0 : Int) - (IntKind.wrap .u64 x2_1))))))] [] (.tv [] (.pair (.int .i64) (.pair (.int .i64) .unit)) (y42, (y43, ()))) []) ∧
   (Q (.tv [] (.pair (.int .i64) (.pair (.int .i64) .unit)) (y42, (y43, ()))) [])))))))))))) ∧
  (((decide (x2_1 < (0 : Int))) = false) →
  (Need ((IntKind.wrap .u64 x2_1) ≠ (0 : Int)) ∧
  (Need ((IntKind.wrap .u64 x2_1) ≠ (0 : Int)) ∧
  (Need (¬ ((IntKind.u64 = IntKind.u8) ∧ (¬ (((0 : Int) ≤ (IntKind.wrap .u64 ((0 : Int) - (IntKind.wrap .u64 x1_1)))) ∧ (((IntKind.wrap .u64 ((0 : Int) - (IntKind.wrap .u64 x1_1))) < (256 : Int)) ∧ ((0 : Int) < (IntKind.wrap .u64 x2_1))))))) ∧
  ((((decide (x0 = (9 : Int))) = true) →
   ((((decide (x1_1 < (0 : Int))) = true) →
    (∃ y47 : Int,
    (∃ y48 : Int,
    (Need (E 44 [(.tv [] (.int .u64) (IntKind.wrap .u64 ((0 : Int) - (Int.tmod (IntKind.wrap .u64 ((0 : Int) - (IntKind.wrap .u64 x1_1))) (IntKind.wrap .u64 x2_1)))))] [] (.tv [] (.pair (.int .i64) (.pair (.int .i64) .unit)) (y47, (y48, ()))) []) ∧
    (Q (.tv [] (.pair (.int .i64) (.pair (.int .i64) .unit)) (y47, (y48, ()))) []))))) ∧
   (((decide (x1_1 < (0 : Int))) = false) →
   (∃ y50 : Int,
   (∃ y51 : Int,
   (Need (E 44 [(.tv [] (.int .u64) (Int.tmod (IntKind.wrap .u64 ((0 : Int) - (IntKind.wrap .u64 x1_1))) (IntKind.wrap .u64 x2_1)))] [] (.tv [] (.pair (.int .i64) (.pair (.int .i64) .unit)) (y50, (y51, ()))) []) ∧
   (Q (.tv [] (.pair (.int .i64) (.pair (.int .i64) .unit)) (y50, (y51, ()))) []))))))) ∧
  (((decide (x0 = (9 : Int))) = false) →
  ((((!(BEq.beq (decide (x1_1 < (0 : Int))) (decide (x2_1 < (0 : Int))))) = true) →
   (∃ y54 : Int,
   (∃ y55 : Int,
   (Need (E 44 [(.tv [] (.int .u64) (IntKind.wrap .u64 ((0 : Int) - (IntKind.wrap .u64 (Int.tdiv (IntKind.wrap .u64 ((0 : Int) - (IntKind.wrap .u64 x1_1))) (IntKind.wrap .u64 x2_1))))))] [] (.tv [] (.pair (.int .i64) (.pair (.int .i64) .unit)) (y54, (y55, ()))) []) ∧
   (Q (.tv [] (.pair (.int .i64) (.pair (.int .i64) .unit)) (y54, (y55, ()))) []))))) ∧
  (((!(BEq.beq (decide (x1_1 < (0 : Int))) (decide (x2_1 < (0 : Int))))) = false) →
  (∃ y57 : Int,
  (∃ y58 : Int,
  (Need (E 44 [(.tv [] (.int .u64) (IntKind.wrap .u64 (Int.tdiv (IntKind.wrap .u64 ((0 : Int) - (IntKind.wrap .u64 x1_1))) (IntKind.wrap .u64 x2_1))))] [] (.tv [] (.pair (.int .i64) (.pair (.int .i64) .unit)) (y57, (y58, ()))) []) ∧
  (Q (.tv [] (.pair (.int .i64) (.pair (.int .i64) .unit)) (y57, (y58, ()))) [])))))))))))))) ∧
 (((decide (x1_1 < (0 : Int))) = false) →
 ((((decide (x2_1 < (0 : Int))) = true) →
  (Need ((IntKind.wrap .u64 ((0 : Int) - (IntKind.wrap .u64 x2_1))) ≠ (0 : Int)) ∧
  (Need ((IntKind.wrap .u64 ((0 : Int) - (IntKind.wrap .u64 x2_1))) ≠ (0 : Int)) ∧
  (Need (¬ ((IntKind.u64 = IntKind.u8) ∧ (¬ (((0 : Int) ≤ (IntKind.wrap .u64 x1_1)) ∧ (((IntKind.wrap .u64 x1_1) < (256 : Int)) ∧ ((0 : Int) < (IntKind.wrap .u64 ((0 : Int) - (IntKind.wrap .u64 x2_1))))))))) ∧
  ((((decide (x0 = (9 : Int))) = true) →
   ((((decide (x1_1 < (0 : Int))) = true) →
    (∃ y63 : Int,
    (∃ y64 : Int,
    (Need (E 44 [(.tv [] (.int .u64) (IntKind.wrap .u64 ((0 : Int) - (Int.tmod (IntKind.wrap .u64 x1_1) (IntKind.wrap .u64 ((0 : Int) - (IntKind.wrap .u64 x2_1)))))))] [] (.tv [] (.pair (.int .i64) (.pair (.int .i64) .unit)) (y63, (y64, ()))) []) ∧
    (Q (.tv [] (.pair (.int .i64) (.pair (.int .i64) .unit)) (y63, (y64, ()))) []))))) ∧
   (((decide (x1_1 < (0 : Int))) = false) →
   (∃ y66 : Int,
   (∃ y67 : Int,
   (Need (E 44 [(.tv [] (.int .u64) (Int.tmod (IntKind.wrap .u64 x1_1) (IntKind.wrap .u64 ((0 : Int) - (IntKind.wrap .u64 x2_1)))))] [] (.tv [] (.pair (.int .i64) (.pair (.int .i64) .unit)) (y66, (y67, ()))) []) ∧
   (Q (.tv [] (.pair (.int .i64) (.pair (.int .i64) .unit)) (y66, (y67, ()))) []))))))) ∧
  (((decide (x0 = (9 : Int))) = false) →
  ((((!(BEq.beq (decide (x1_1 < (0 : Int))) (decide (x2_1 < (0 : Int))))) = true) →
   (∃ y70 : Int,
   (∃ y71 : Int,
   (Need (E 44 [(.tv [] (.int .u64) (IntKind.wrap .u64 ((0 : Int) - (IntKind.wrap .u64 (Int.tdiv (IntKind.wrap .u64 x1_1) (IntKind.wrap .u64 ((0 : Int) - (IntKind.wrap .u64 x2_1))))))))] [] (.tv [] (.pair (.int .i64) (.pair (.int .i64) .unit)) (y70, (y71, ()))) []) ∧
   (Q (.tv [] (.pair (.int .i64) (.pair (.int .i64) .unit)) (y70, (y71, ()))) []))))) ∧
  (((!(BEq.beq (decide (x1_1 < (0 : Int))) (decide (x2_1 < (0 : Int))))) = false) →
  (∃ y73 : Int,
  (∃ y74 : Int,
  (Need (E 44 [(.tv [] (.int .u64) (IntKind.wrap .u64 (Int.tdiv (IntKind.wrap .u64 x1_1) (IntKind.wrap .u64 ((0 : Int) - (IntKind.wrap .u64 x2_1))))))] [] (.tv [] (.pair (.int .i64) (.pair (.int .i64) .unit)) (y73, (y74, ()))) []) ∧
  (Q (.tv [] (.pair (.int .i64) (.pair (.int .i64) .unit)) (y73, (y74, ()))) [])))))))))))) ∧
 (((decide (x2_1 < (0 : Int))) = false) →
 (Need ((IntKind.wrap .u64 x2_1) ≠ (0 : Int)) ∧
 (Need ((IntKind.wrap .u64 x2_1) ≠ (0 : Int)) ∧
 (Need (¬ ((IntKind.u64 = IntKind.u8) ∧ (¬ (((0 : Int) ≤ (IntKind.wrap .u64 x1_1)) ∧ (((IntKind.wrap .u64 x1_1) < (256 : Int)) ∧ ((0 : Int) < (IntKind.wrap .u64 x2_1))))))) ∧
 ((((decide (x0 = (9 : Int))) = true) →
  ((((decide (x1_1 < (0 : Int))) = true) →
   (∃ y78 : Int,
   (∃ y79 : Int,
   (Need (E 44 [(.tv [] (.int .u64) (IntKind.wrap .u64 ((0 : Int) - (Int.tmod (IntKind.wrap .u64 x1_1) (IntKind.wrap .u64 x2_1)))))] [] (.tv [] (.pair (.int .i64) (.pair (.int .i64) .unit)) (y78, (y79, ()))) []) ∧
   (Q (.tv [] (.pair (.int .i64) (.pair (.int .i64) .unit)) (y78, (y79, ()))) []))))) ∧
  (((decide (x1_1 < (0 : Int))) = false) →
  (∃ y81 : Int,
  (∃ y82 : Int,
  (Need (E 44 [(.tv [] (.int .u64) (Int.tmod (IntKind.wrap .u64 x1_1) (IntKind.wrap .u64 x2_1)))] [] (.tv [] (.pair (.int .i64) (.pair (.int .i64) .unit)) (y81, (y82, ()))) []) ∧
  (Q (.tv [] (.pair (.int .i64) (.pair (.int .i64) .unit)) (y81, (y82, ()))) []))))))) ∧
 (((decide (x0 = (9 : Int))) = false) →
 ((((!(BEq.beq (decide (x1_1 < (0 : Int))) (decide (x2_1 < (0 : Int))))) = true) →
  (∃ y85 : Int,
  (∃ y86 : Int,
  (Need (E 44 [(.tv [] (.int .u64) (IntKind.wrap .u64 ((0 : Int) - (IntKind.wrap .u64 (Int.tdiv (IntKind.wrap .u64 x1_1) (IntKind.wrap .u64 x2_1))))))] [] (.tv [] (.pair (.int .i64) (.pair (.int .i64) .unit)) (y85, (y86, ()))) []) ∧
  (Q (.tv [] (.pair (.int .i64) (.pair (.int .i64) .unit)) (y85, (y86, ()))) []))))) ∧
 (((!(BEq.beq (decide (x1_1 < (0 : Int))) (decide (x2_1 < (0 : Int))))) = false) →
 (∃ y88 : Int,
 (∃ y89 : Int,
 (Need (E 44 [(.tv [] (.int .u64) (IntKind.wrap .u64 (Int.tdiv (IntKind.wrap .u64 x1_1) (IntKind.wrap .u64 x2_1))))] [] (.tv [] (.pair (.int .i64) (.pair (.int .i64) .unit)) (y88, (y89, ()))) []) ∧
 (Q (.tv [] (.pair (.int .i64) (.pair (.int .i64) .unit)) (y88, (y89, ()))) [])))))))))))))))))))))))))))))))) : EvF PP orc 45 [.tv [] (.int .i64) x0, .tv [] (.pair (.int .i64) (.pair (.int .i64) .unit)) (x1_0, (x1_1, ())), .tv [] (.pair (.int .i64) (.pair (.int .i64) .unit)) (x2_0, (x2_1, ()))] [] Q := vcF_ok (sg := sg) (Eq.mp (by kernel_rfl) h)
/-- tronage/tronageref22.mean -/
theorem vc25 (x0 : XT) (x1 : List ((Int × (Int × Unit)))) (x2 : List (Int)) (Q : AV → Heap → Prop) (h :
((((decide ((XT.kind x0) = (1 : Int))) = true) →
  (Q (.tv [] (.pair (.int .i64) (.pair (.int .i64) .unit)) ((1 : Int), ((XT.num x0), ()))) [])) ∧
 (((decide ((XT.kind x0) = (1 : Int))) = false) →
 ((((decide ((XT.kind x0) = (2 : Int))) = true) →
  (Need (((-9223372036854775808 : Int) ≤ ((XT.num x0) - (1 : Int))) ∧ (((XT.num x0) - (1 : Int)) ≤ (9223372036854775807 : Int))) ∧
  (Need (((0 : Int) ≤ ((XT.num x0) - (1 : Int))) ∧ (((XT.num x0) - (1 : Int)) < ((List.length x1) : Int))) ∧
  (Q (.tv [] (.pair (.int .i64) (.pair (.int .i64) .unit)) (List.getD x1 (Int.toNat ((XT.num x0) - (1 : Int))) ((0 : Int), ((0 : Int), ())))) [])))) ∧
 (((decide ((XT.kind x0) = (2 : Int))) = false) →
 ((((decide ((XT.kind x0) = (3 : Int))) = true) →
  (Need (((-9223372036854775808 : Int) ≤ ((XT.num x0) - (1 : Int))) ∧ (((XT.num x0) - (1 : Int)) ≤ (9223372036854775807 : Int))) ∧
  (Need (((0 : Int) ≤ ((XT.num x0) - (1 : Int))) ∧ (((XT.num x0) - (1 : Int)) < ((List.length x2) : Int))) ∧
  (Q (.tv [] (.pair (.int .i64) (.pair (.int .i64) .unit)) ((2 : Int), ((List.getD x2 (Int.toNat ((XT.num x0) - (1 : Int))) (0 : Int)), ()))) [])))) ∧
 (((decide ((XT.kind x0) = (3 : Int))) = false) →
 ((((decide ((XT.kind x0) = (4 : Int))) = true) →
  (Need (((0 : Int) ≤ (0 : Int)) ∧ ((0 : Int) < ((List.length (XT.kids x0)) : Int))) ∧
  (∃ y7 : Int,
  (∃ y8 : Int,
  (Need (E 25 [(.tv [] .expr (List.getD (XT.kids x0) 0 (XT.mk (0 : Int) (0 : Int) []))), (.tv [] (.slice (.pair (.int .i64) (.pair (.int .i64) .unit))) x1), (.tv [] (.slice (.int .i64)) x2)] [] (.tv [] (.pair (.int .i64) (.pair (.int .i64) .unit)) (y7, (y8, ()))) []) ∧
  ((((decide (y7 = (3 : Int))) = true) →
   (Q (.tv [] (.pair (.int .i64) (.pair (.int .i64) .unit)) (y7, (y8, ()))) [])) ∧
  (((decide (y7 = (3 : Int))) = false) →
  ((((decide (y7 ≠ (1 : Int))) = true) →
   (∃ y12 : Int,
   (∃ y13 : Int,
   (Need (E 24 [(.tv [] (.int .i64) (33 : Int))] [] (.tv [] (.pair (.int .i64) (.pair (.int .i64) .unit)) (y12, (y13, ()))) []) ∧
   (Q (.tv [] (.pair (.int .i64) (.pair (.int .i64) .unit)) (y12, (y13, ()))) []))))) ∧
  (((decide (y7 ≠ (1 : Int))) = false) →
  (∃ y15 : Int,
  (∃ y16 : Int,
  (Need (E 44 [(.tv [] (.int .u64) (IntKind.wrap .u64 ((0 : Int) - (IntKind.wrap .u64 y8))))] [] (.tv [] (.pair (.int .i64) (.pair (.int .i64) .unit)) (y15, (y16, ()))) []) ∧
  (Q (.tv [] (.pair (.int .i64) (.pair (.int .i64) .unit)) (y15, (y16, ()))) []))))))))))))) ∧
 (((decide ((XT.kind x0) = (4 : Int))) = false) →
 (Need (((0 : Int) ≤ (0 : Int)) ∧ ((0 : Int) < ((List.length (XT.kids x0)) : Int))) ∧
 (∃ y18 : Int,
 (∃ y19 : Int,
 (Need (E 25 [(.tv [] .expr (List.getD (XT.kids x0) 0 (XT.mk (0 : Int) (0 : Int) []))), (.tv [] (.slice (.pair (.int .i64) (.pair (.int .i64) .unit))) x1), (.tv [] (.slice (.int .i64)) x2)] [] (.tv [] (.pair (.int .i64) (.pair (.int .i64) .unit)) (y18, (y19, ()))) []) ∧
 (Need (((0 : Int) ≤ (1 : Int)) ∧ ((1 : Int) < ((List.length (XT.kids x0)) : Int))) ∧
 (∃ y20 : Int,
 (∃ y21 : Int,
 (Need (E 25 [(.tv [] .expr (List.getD (XT.kids x0) 1 (XT.mk (0 : Int) (0 : Int) []))), (.tv [] (.slice (.pair (.int .i64) (.pair (.int .i64) .unit))) x1), (.tv [] (.slice (.int .i64)) x2)] [] (.tv [] (.pair (.int .i64) (.pair (.int .i64) .unit)) (y20, (y21, ()))) []) ∧
 (∃ y22 : Int,
 (∃ y23 : Int,
 (Need (E 45 [(.tv [] (.int .i64) (XT.kind x0)), (.tv [] (.pair (.int .i64) (.pair (.int .i64) .unit)) (y18, (y19, ()))), (.tv [] (.pair (.int .i64) (.pair (.int .i64) .unit)) (y20, (y21, ())))] [] (.tv [] (.pair (.int .i64) (.pair (.int .i64) .unit)) (y22, (y23, ()))) []) ∧
 (Q (.tv [] (.pair (.int .i64) (.pair (.int .i64) .unit)) (y22, (y23, ()))) []))))))))))))))))))))) : EvF PP orc 25 [.tv [] .expr x0, .tv [] (.slice (.pair (.int .i64) (.pair (.int .i64) .unit))) x1, .tv [] (.slice (.int .i64)) x2] [] Q := vcF_ok (sg := sg) (Eq.mp (by kernel_rfl) h)
/-- tronage/tronageref22.Mean -/
theorem vc13 (x0 : XT) (x1 : List ((Int × (Int × Unit)))) (x2 : List (Int)) (Q : AV → Heap → Prop) (h :
(∃ y0 : (List (Prod Int (Prod Int PUnit))),
 (Need (E 12 [(.tv [] .expr x0)] [] (.tv [[]] (.slice (.pair (.int .i64) (.pair (.int .i64) .unit))) y0) []) ∧
 (∃ y1 : Int,
 (∃ y2 : Int,
 (Need (E 14 [(.tv [] (.slice (.pair (.int .i64) (.pair (.int .i64) .unit))) y0), (.tv [] (.int .i64) ((List.length x1) : Int))] [] (.tup [(.tv [] (.int .i64) y1), (.tv [] (.int .i64) y2)]) []) ∧
 ((((decide (((List.length y0) : Int) = (0 : Int))) = true) →
  (∃ y4 : Int,
  (∃ y5 : Int,
  (Need (E 24 [(.tv [] (.int .i64) (31 : Int))] [] (.tv [] (.pair (.int .i64) (.pair (.int .i64) .unit)) (y4, (y5, ()))) []) ∧
  (Q (.tv [] (.pair (.int .i64) (.pair (.int .i64) .unit)) (y4, (y5, ()))) []))))) ∧
 (((decide (((List.length y0) : Int) = (0 : Int))) = false) →
 ((((decide (y2 ≠ (0 : Int))) = true) →
  (∃ y8 : Int,
  (∃ y9 : Int,
  (Need (E 24 [(.tv [] (.int .i64) (31 : Int))] [] (.tv [] (.pair (.int .i64) (.pair (.int .i64) .unit)) (y8, (y9, ()))) []) ∧
  (Q (.tv [] (.pair (.int .i64) (.pair (.int .i64) .unit)) (y8, (y9, ()))) []))))) ∧
 (((decide (y2 ≠ (0 : Int))) = false) →
 ((((decide (((List.length x1) : Int) ≠ ((List.length x2) : Int))) = true) →
  (∃ y12 : Int,
  (∃ y13 : Int,
  (Need (E 24 [(.tv [] (.int .i64) (31 : Int))] [] (.tv [] (.pair (.int .i64) (.pair (.int .i64) .unit)) (y12, (y13, ()))) []) ∧
  (Q (.tv [] (.pair (.int .i64) (.pair (.int .i64) .unit)) (y12, (y13, ()))) []))))) ∧
 (((decide (((List.length x1) : Int) ≠ ((List.length x2) : Int))) = false) →
 (∃ y15 : Int,
 (∃ y16 : Int,
 (Need (E 25 [(.tv [] .expr x0), (.tv [] (.slice (.pair (.int .i64) (.pair (.int .i64) .unit))) x1), (.tv [] (.slice (.int .i64)) x2)] [] (.tv [] (.pair (.int .i64) (.pair (.int .i64) .unit)) (y15, (y16, ()))) []) ∧
 (Q (.tv [] (.pair (.int .i64) (.pair (.int .i64) .unit)) (y15, (y16, ()))) [])))))))))))))))) : EvF PP orc 13 [.tv [] .expr x0, .tv [] (.slice (.pair (.int .i64) (.pair (.int .i64) .unit))) x1, .tv [] (.slice (.int .i64)) x2] [] Q := vcF_ok (sg := sg) (Eq.mp (by kernel_rfl) h)
/-- tronage/tronagelaw22.num -/
theorem vc16 (x0 : Int) (Q : AV → Heap → Prop) (h :
(Q (.tv [] (.pair (.int .i64) (.pair (.int .i64) .unit)) ((1 : Int), (x0, ()))) [])) : EvF PP orc 16 [.tv [] (.int .i64) x0] [] Q := vcF_ok (sg := sg) (Eq.mp (by kernel_rfl) h)
end Go.Am.V
