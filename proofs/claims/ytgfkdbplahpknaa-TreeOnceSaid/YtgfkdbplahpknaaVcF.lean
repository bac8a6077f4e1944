/-
  A part of the proof of a law: see the text that states it.
-/
import Derived.Test.YtgfkdbplahpknaaHead
set_option linter.all false
namespace Go.Am.T
open Go
set_option maxRecDepth 100000
set_option maxHeartbeats 4000000
theorem vc6 (x0_0 : Int) (x0_1 : Int) (x0_2 : List (Int)) (x0_3 : List (List (Int))) (x0_4 : List (Int)) (x0_5 : List (Int)) (x0_6 : List (Int)) (x1 : Int) (x2 : List ((Int × (Int × (Int × ((Int × (Int × (Int × Unit))) × (List (Int) × Unit))))))) (Q : AV → Heap → Prop) (h :
(∃ y0 : Bool,
 (Need (E 9 [] [] (.tv [] .bool y0) []) ∧
 (∃ y1 : Bool,
 (Need (E 20 [(.tv [] qt7 (x0_0, (x0_1, (x0_2, (x0_3, (x0_4, (x0_5, (x0_6, ())))))))), (.tv [] (.int .i64) (20 : Int)), (.tv [] (.int .i64) (8 : Int))] [] (.tv [] .bool y1) []) ∧
 (∃ y2 : Bool,
 (Need (E 21 [(.tv [] (.slice qt8) x2)] [] (.tv [] .bool y2) []) ∧
 ((((!y1) = true) →
  (Q (.tv [] .bool y0) [])) ∧
 (((!y1) = false) →
 ((((!y2) = true) →
  (Q (.tv [] .bool y0) [])) ∧
 (((!y2) = false) →
 (∃ y7 : qT7,
 (∃ y8 : qT7,
 (∃ y9 : qT4,
 (∃ y10 : qT2,
 (∃ y11 : qT2,
 (∃ y12 : qT7,
 (Need (E 23 [(.tv [] qt7 (x0_0, (x0_1, (x0_2, (x0_3, (x0_4, (x0_5, (x0_6, ()))))))))] [] (.tv [] qt5 (y7, (y8, (y9, (y10, (y11, (y12, ()))))))) []) ∧
 (∃ y13 : Int,
 (∃ y14 : Int,
 (∃ y15 : Int,
 (Need (E 11 [(.tv [] (.int .i64) x1)] [] (.op (1, 0) []) [((1, 0), ⟨⟨qt1, (y13, (y14, (y15, ())))⟩, []⟩)]) ∧
 (∃ y16 : Nat,
 (∃ y17 : qT0,
 (∃ y18 : Nat,
 (∃ y19 : Nat,
 (∃ y20 : Int,
 (∃ y21 : Int,
 (∃ y22 : Int,
 (∃ y23 : Int,
 (Need (E 10 [(.op (0, 0) [])] [((0, 0), ⟨⟨qt1, (y13, (y14, (y15, ())))⟩, []⟩)] (.op (1, 0) []) [((1, 0), ⟨⟨qt9, ((Option.some (1, 1)), ())⟩, []⟩), ((1, 2), ⟨⟨(.arr (Nat.succ y16) (List.length y17) qt0), y17⟩, []⟩), ((1, 1), ⟨⟨qt3, ((Option.some (0, 0)), ((Option.some ((1, 2), (y18, (0, y19)))), (y20, ())))⟩, []⟩), ((0, 0), ⟨⟨qt1, (y21, (y22, (y23, ())))⟩, []⟩)]) ∧
 (∃ y24 : Int,
 (Need (E 26 [(.tv [] (.int .i64) x1)] [] (.tv [] (.int .i64) y24) []) ∧
 (((false = true) →
  (Q (.tv [] .bool false) [])) ∧
 ((false = false) →
 (((false = true) →
  (Q (.tv [] .bool false) [])) ∧
 ((false = false) →
 (∃ y29 : (Int → (Int → (Int → (Int → (qT1 → (Int → (Int → (Int → (Int → (qT0 → (Int → (Int → (Int → (Int → (Int → (Int → Prop)))))))))))))))),
 (∃ y30 : (Int → (Int → (Int → (Int → (qT1 → (Int → (Int → (Int → (Int → (qT0 → (Int → (Int → (Int → (Int → (Int → (Int → Nat)))))))))))))))),
 (Need ((0 = 0) ∧ ((List.length y17) = (List.length y17))) ∧
 ((y29 (0 : Int) ((0 : Nat) : Int) ((0 : Nat) : Int) ((0 : Nat) : Int) [] y24 (0 : Int) (0 : Int) (y16 : Int) y17 (y18 : Int) (y19 : Int) y20 y21 y22 y23) ∧
 (∀ z31 : Int,
 (∀ z32 : Int,
 (∀ z33 : Int,
 (∀ z34 : Int,
 (∀ z35 : qT1,
 (∀ z36 : Int,
 (∀ z37 : Int,
 (∀ z38 : Int,
 (∀ z39 : Int,
 (∀ z40 : qT0,
 (∀ z41 : Int,
 (∀ z42 : Int,
 (∀ z43 : Int,
 (∀ z44 : Int,
 (∀ z45 : Int,
 (∀ z46 : Int,
 ((y29 z31 z32 z33 z34 z35 z36 z37 z38 z39 z40 z41 z42 z43 z44 z45 z46) →
 ((((decide (z31 < ((List.length x2) : Int))) = true) →
  (Need (((0 : Int) ≤ z31) ∧ (z31 < ((List.length x2) : Int))) ∧
  (∃ y49 : Int,
  (∃ y50 : Int,
  (∃ y51 : Int,
  (∃ y52 : Int,
  (∃ y53 : Int,
  (∃ y54 : Int,
  (∃ y55 : qT2,
  (∃ y56 : Nat,
  (∃ y57 : Nat,
  (∃ y58 : Int,
  (∃ y59 : Int,
  (∃ y60 : Int,
  (∃ y61 : Nat,
  (∃ y62 : qT1,
  (Need (E 28 [(.tv [] qt5 (y7, (y8, (y9, (y10, (y11, (y12, ()))))))), (.op (0, 0) []), (.tv [] qt8 (List.getD x2 (Int.toNat z31) ((0 : Int), ((0 : Int), ((0 : Int), (((0 : Int), ((0 : Int), ((0 : Int), ()))), ([], ())))))))] [((0, 0), ⟨⟨qt6, ((Option.some (0, 1)), ((Option.some ((0, 2), ((Int.toNat z32), (0, (Int.toNat z33))))), ()))⟩, []⟩), ((0, 1), ⟨⟨qt1, (z36, (z37, (z38, ())))⟩, []⟩), ((0, 2), ⟨⟨(.arr (Nat.succ (Int.toNat z34)) (List.length z35) qt2), z35⟩, []⟩)] (.tv [] qt8 (y49, (y50, (y51, ((y52, (y53, (y54, ()))), (y55, ())))))) [((0, 0), ⟨⟨qt6, ((Option.some (0, 1)), ((Option.some ((0, 2), (y56, (0, y57)))), ()))⟩, []⟩), ((0, 1), ⟨⟨qt1, (y58, (y59, (y60, ())))⟩, []⟩), ((0, 2), ⟨⟨(.arr (Nat.succ y61) (List.length y62) qt2), y62⟩, []⟩)]) ∧
  (∃ y63 : Bool,
  (∃ y64 : Nat,
  (∃ y65 : Nat,
  (∃ y66 : Nat,
  (∃ y67 : Nat,
  (∃ y68 : Int,
  (∃ y69 : Int,
  (∃ y70 : Int,
  (∃ y71 : Int,
  (∃ y72 : Nat,
  (∃ y73 : qT1,
  (∃ y74 : Int,
  (∃ y75 : Int,
  (∃ y76 : Int,
  (∃ y77 : Nat,
  (∃ y78 : qT0,
  (Need (E 27 [(.op (0, 0) []), (.op (0, 1) []), (.tv [] qt8 (y49, (y50, (y51, ((y52, (y53, (y54, ()))), (y55, ()))))))] [((0, 0), ⟨⟨qt9, ((Option.some (0, 2)), ())⟩, []⟩), ((0, 1), ⟨⟨qt6, ((Option.some (0, 3)), ((Option.some ((0, 4), (y56, (0, y57)))), ()))⟩, []⟩), ((0, 2), ⟨⟨qt3, ((Option.some (0, 5)), ((Option.some ((0, 6), ((Int.toNat z41), (0, (Int.toNat z42))))), (z43, ())))⟩, []⟩), ((0, 3), ⟨⟨qt1, (y58, (y59, (y60, ())))⟩, []⟩), ((0, 4), ⟨⟨(.arr (Nat.succ y61) (List.length y62) qt2), y62⟩, []⟩), ((0, 5), ⟨⟨qt1, (z44, (z45, (z46, ())))⟩, []⟩), ((0, 6), ⟨⟨(.arr (Nat.succ (Int.toNat z39)) (List.length z40) qt0), z40⟩, []⟩)] (.tv [] .bool y63) [((0, 0), ⟨⟨qt9, ((Option.some (0, 2)), ())⟩, []⟩), ((0, 1), ⟨⟨qt6, ((Option.some (0, 3)), ((Option.some ((0, 4), (y64, (0, y65)))), ()))⟩, []⟩), ((0, 2), ⟨⟨qt3, ((Option.some (0, 5)), ((Option.some ((0, 6), (y66, (0, y67)))), (y68, ())))⟩, []⟩), ((0, 3), ⟨⟨qt1, (y69, (y70, (y71, ())))⟩, []⟩), ((0, 4), ⟨⟨(.arr (Nat.succ y72) (List.length y73) qt2), y73⟩, []⟩), ((0, 5), ⟨⟨qt1, (y74, (y75, (y76, ())))⟩, []⟩), ((0, 6), ⟨⟨(.arr (Nat.succ y77) (List.length y78) qt0), y78⟩, []⟩)]) ∧
  (∃ y79 : Int,
  (∃ y80 : Nat,
  (∃ y81 : Nat,
  (∃ y82 : Int,
  (∃ y83 : Int,
  (∃ y84 : Int,
  (∃ y85 : Int,
  (∃ y86 : Nat,
  (∃ y87 : qT0,
  (Need (E 24 [(.op (0, 0) [])] [((0, 0), ⟨⟨qt9, ((Option.some (0, 1)), ())⟩, []⟩), ((0, 1), ⟨⟨qt3, ((Option.some (0, 2)), ((Option.some ((0, 3), (y66, (0, y67)))), (y68, ())))⟩, []⟩), ((0, 2), ⟨⟨qt1, (y74, (y75, (y76, ())))⟩, []⟩), ((0, 3), ⟨⟨(.arr (Nat.succ y77) (List.length y78) qt0), y78⟩, []⟩)] (.tv [] (.int .i64) y79) [((0, 0), ⟨⟨qt9, ((Option.some (0, 1)), ())⟩, []⟩), ((0, 1), ⟨⟨qt3, ((Option.some (0, 2)), ((Option.some ((0, 3), (y80, (0, y81)))), (y82, ())))⟩, []⟩), ((0, 2), ⟨⟨qt1, (y83, (y84, (y85, ())))⟩, []⟩), ((0, 3), ⟨⟨(.arr (Nat.succ y86) (List.length y87) qt0), y87⟩, []⟩)]) ∧
  (∃ y88 : (Int → (Int → (Int → (Int → (Int → (qT1 → (Int → (Int → (Int → (Int → (qT0 → (Int → (Int → (Int → (Int → (Int → (Int → Prop))))))))))))))))),
  (∃ y89 : (Int → (Int → (Int → (Int → (Int → (qT1 → (Int → (Int → (Int → (Int → (qT0 → (Int → (Int → (Int → (Int → (Int → (Int → Nat))))))))))))))))),
  (Need (((List.length y73) = (List.length y73)) ∧ ((List.length y87) = (List.length y87))) ∧
  ((y88 y79 (0 : Int) (y64 : Int) (y65 : Int) (y72 : Int) y73 y69 y70 y71 (y86 : Int) y87 (y80 : Int) (y81 : Int) y82 y83 y84 y85) ∧
  (∀ z90 : Int,
  (∀ z91 : Int,
  (∀ z92 : Int,
  (∀ z93 : Int,
  (∀ z94 : Int,
  (∀ z95 : qT1,
  (∀ z96 : Int,
  (∀ z97 : Int,
  (∀ z98 : Int,
  (∀ z99 : Int,
  (∀ z100 : qT0,
  (∀ z101 : Int,
  (∀ z102 : Int,
  (∀ z103 : Int,
  (∀ z104 : Int,
  (∀ z105 : Int,
  (∀ z106 : Int,
  ((y88 z90 z91 z92 z93 z94 z95 z96 z97 z98 z99 z100 z101 z102 z103 z104 z105 z106) →
  ((((decide (z91 < y79)) = true) →
   (∃ y109 : qT2,
   (∃ y110 : Nat,
   (∃ y111 : Nat,
   (∃ y112 : Int,
   (∃ y113 : Int,
   (∃ y114 : Int,
   (∃ y115 : Int,
   (∃ y116 : Nat,
   (∃ y117 : qT0,
   (Need (E 14 [(.op (0, 0) []), (.tv [] (.int .i64) z91)] [((0, 0), ⟨⟨qt9, ((Option.some (0, 1)), ())⟩, []⟩), ((0, 1), ⟨⟨qt3, ((Option.some (0, 2)), ((Option.some ((0, 3), ((Int.toNat z101), (0, (Int.toNat z102))))), (z103, ())))⟩, []⟩), ((0, 2), ⟨⟨qt1, (z104, (z105, (z106, ())))⟩, []⟩), ((0, 3), ⟨⟨(.arr (Nat.succ (Int.toNat z99)) (List.length z100) qt0), z100⟩, []⟩)] (.tv [[]] qt12 y109) [((0, 0), ⟨⟨qt9, ((Option.some (0, 1)), ())⟩, []⟩), ((0, 1), ⟨⟨qt3, ((Option.some (0, 2)), ((Option.some ((0, 3), (y110, (0, y111)))), (y112, ())))⟩, []⟩), ((0, 2), ⟨⟨qt1, (y113, (y114, (y115, ())))⟩, []⟩), ((0, 3), ⟨⟨(.arr (Nat.succ y116) (List.length y117) qt0), y117⟩, []⟩)]) ∧
   (Need (((-9223372036854775808 : Int) ≤ (z90 + ((List.length y109) : Int))) ∧ ((z90 + ((List.length y109) : Int)) ≤ (9223372036854775807 : Int))) ∧
   (Need (((-9223372036854775808 : Int) ≤ (z91 + (1 : Int))) ∧ ((z91 + (1 : Int)) ≤ (9223372036854775807 : Int))) ∧
   (Need (((y7, (y8, (y9, (y10, (y11, (y12, ())))))) = (y7, (y8, (y9, (y10, (y11, (y12, ()))))))) ∧ (((List.length z95) = (List.length z95)) ∧ ((List.length y117) = (List.length y117)))) ∧
   ((y88 (z90 + ((List.length y109) : Int)) (z91 + (1 : Int)) ((Int.toNat z92) : Int) ((Int.toNat z93) : Int) ((Int.toNat z94) : Int) z95 z96 z97 z98 (y116 : Int) y117 (y110 : Int) (y111 : Int) y112 y113 y114 y115) ∧
   Need ((y89 (z90 + ((List.length y109) : Int)) (z91 + (1 : Int)) ((Int.toNat z92) : Int) ((Int.toNat z93) : Int) ((Int.toNat z94) : Int) z95 z96 z97 z98 (y116 : Int) y117 (y110 : Int) (y111 : Int) y112 y113 y114 y115) < (y89 z90 z91 z92 z93 z94 z95 z96 z97 z98 z99 z100 z101 z102 z103 z104 z105 z106))))))))))))))))) ∧
  (((decide (z91 < y79)) = false) →
  (∃ y119 : Int,
  (∃ y120 : Nat,
  (∃ y121 : Nat,
  (∃ y122 : Int,
  (∃ y123 : Int,
  (∃ y124 : Int,
  (∃ y125 : Int,
  (∃ y126 : Nat,
  (∃ y127 : qT0,
  (Need (E 29 [(.op (0, 0) [])] [((0, 0), ⟨⟨qt9, ((Option.some (0, 1)), ())⟩, []⟩), ((0, 1), ⟨⟨qt3, ((Option.some (0, 2)), ((Option.some ((0, 3), ((Int.toNat z101), (0, (Int.toNat z102))))), (z103, ())))⟩, []⟩), ((0, 2), ⟨⟨qt1, (z104, (z105, (z106, ())))⟩, []⟩), ((0, 3), ⟨⟨(.arr (Nat.succ (Int.toNat z99)) (List.length z100) qt0), z100⟩, []⟩)] (.tv [] (.int .i64) y119) [((0, 0), ⟨⟨qt9, ((Option.some (0, 1)), ())⟩, []⟩), ((0, 1), ⟨⟨qt3, ((Option.some (0, 2)), ((Option.some ((0, 3), (y120, (0, y121)))), (y122, ())))⟩, []⟩), ((0, 2), ⟨⟨qt1, (y123, (y124, (y125, ())))⟩, []⟩), ((0, 3), ⟨⟨(.arr (Nat.succ y126) (List.length y127) qt0), y127⟩, []⟩)]) ∧
  ((((decide (z90 ≠ y119)) = true) →
   (Q (.tv [] .bool false) [])) ∧
  (((decide (z90 ≠ y119)) = false) →
  (∃ y130 : Int,
  (∃ y131 : Int,
  (∃ y132 : Int,
  (∃ y133 : Int,
  (Need (E 30 [(.op (0, 0) [])] [((0, 0), ⟨⟨qt1, (y123, (y124, (y125, ())))⟩, []⟩)] (.tv [] (.int .i64) y130) [((0, 0), ⟨⟨qt1, (y131, (y132, (y133, ())))⟩, []⟩)]) ∧
  ((((decide (z90 ≠ y130)) = true) →
   (Q (.tv [] .bool false) [])) ∧
  (((decide (z90 ≠ y130)) = false) →
  (∃ y136 : Int,
  (Need (E 26 [(.tv [] (.int .i64) x1)] [] (.tv [] (.int .i64) y136) []) ∧
  ((((decide (y136 < z90)) = true) →
   (Q (.tv [] .bool false) [])) ∧
  (((decide (y136 < z90)) = false) →
  (Need (((-9223372036854775808 : Int) ≤ (z31 + (1 : Int))) ∧ ((z31 + (1 : Int)) ≤ (9223372036854775807 : Int))) ∧
  (Need (((y7, (y8, (y9, (y10, (y11, (y12, ())))))) = (y7, (y8, (y9, (y10, (y11, (y12, ()))))))) ∧ (((List.length z95) = (List.length z95)) ∧ ((List.length y127) = (List.length y127)))) ∧
  ((y29 (z31 + (1 : Int)) ((Int.toNat z92) : Int) ((Int.toNat z93) : Int) ((Int.toNat z94) : Int) z95 z96 z97 z98 (y126 : Int) y127 (y120 : Int) (y121 : Int) y122 y131 y132 y133) ∧
  Need ((y30 (z31 + (1 : Int)) ((Int.toNat z92) : Int) ((Int.toNat z93) : Int) ((Int.toNat z94) : Int) z95 z96 z97 z98 (y126 : Int) y127 (y120 : Int) (y121 : Int) y122 y131 y132 y133) < (y30 z31 z32 z33 z34 z35 z36 z37 z38 z39 z40 z41 z42 z43 z44 z45 z46)))))))))))))))))))))))))))))))))))))))))))))))))))))))))))))))))))))))))))))))))))))))))))))))) ∧
 (((decide (z31 < ((List.length x2) : Int))) = false) →
 (∃ y140 : Int,
 (∃ y141 : Nat,
 (∃ y142 : Nat,
 (∃ y143 : Int,
 (∃ y144 : Int,
 (∃ y145 : Int,
 (∃ y146 : Int,
 (∃ y147 : Nat,
 (∃ y148 : qT0,
 (Need (E 29 [(.op (0, 0) [])] [((0, 0), ⟨⟨qt9, ((Option.some (0, 1)), ())⟩, []⟩), ((0, 1), ⟨⟨qt3, ((Option.some (0, 2)), ((Option.some ((0, 3), ((Int.toNat z41), (0, (Int.toNat z42))))), (z43, ())))⟩, []⟩), ((0, 2), ⟨⟨qt1, (z44, (z45, (z46, ())))⟩, []⟩), ((0, 3), ⟨⟨(.arr (Nat.succ (Int.toNat z39)) (List.length z40) qt0), z40⟩, []⟩)] (.tv [] (.int .i64) y140) [((0, 0), ⟨⟨qt9, ((Option.some (0, 1)), ())⟩, []⟩), ((0, 1), ⟨⟨qt3, ((Option.some (0, 2)), ((Option.some ((0, 3), (y141, (0, y142)))), (y143, ())))⟩, []⟩), ((0, 2), ⟨⟨qt1, (y144, (y145, (y146, ())))⟩, []⟩), ((0, 3), ⟨⟨(.arr (Nat.succ y147) (List.length y148) qt0), y148⟩, []⟩)]) ∧
 (((y0 = true) →
  (∃ y150 : Int,
  (∃ y151 : Nat,
  (∃ y152 : Nat,
  (∃ y153 : Int,
  (∃ y154 : Int,
  (∃ y155 : Int,
  (∃ y156 : Int,
  (∃ y157 : Nat,
  (∃ y158 : qT0,
  (Need (E 31 [(.op (0, 0) [])] [((0, 0), ⟨⟨qt9, ((Option.some (0, 1)), ())⟩, []⟩), ((0, 1), ⟨⟨qt3, ((Option.some (0, 2)), ((Option.some ((0, 3), (y141, (0, y142)))), (y143, ())))⟩, []⟩), ((0, 2), ⟨⟨qt1, (y144, (y145, (y146, ())))⟩, []⟩), ((0, 3), ⟨⟨(.arr (Nat.succ y147) (List.length y148) qt0), y148⟩, []⟩)] (.tv [] (.int .i64) y150) [((0, 0), ⟨⟨qt9, ((Option.some (0, 1)), ())⟩, []⟩), ((0, 1), ⟨⟨qt3, ((Option.some (0, 2)), ((Option.some ((0, 3), (y151, (0, y152)))), (y153, ())))⟩, []⟩), ((0, 2), ⟨⟨qt1, (y154, (y155, (y156, ())))⟩, []⟩), ((0, 3), ⟨⟨(.arr (Nat.succ y157) (List.length y158) qt0), y158⟩, []⟩)]) ∧
  ((((decide (y150 = y140)) = true) →
   (∃ y160 : Int,
   (∃ y161 : Nat,
   (∃ y162 : Nat,
   (∃ y163 : Int,
   (∃ y164 : Int,
   (∃ y165 : Int,
   (∃ y166 : Int,
   (∃ y167 : Nat,
   (∃ y168 : qT0,
   (Need (E 24 [(.op (0, 0) [])] [((0, 0), ⟨⟨qt9, ((Option.some (0, 1)), ())⟩, []⟩), ((0, 1), ⟨⟨qt3, ((Option.some (0, 2)), ((Option.some ((0, 3), (y151, (0, y152)))), (y153, ())))⟩, []⟩), ((0, 2), ⟨⟨qt1, (y154, (y155, (y156, ())))⟩, []⟩), ((0, 3), ⟨⟨(.arr (Nat.succ y157) (List.length y158) qt0), y158⟩, []⟩)] (.tv [] (.int .i64) y160) [((0, 0), ⟨⟨qt9, ((Option.some (0, 1)), ())⟩, []⟩), ((0, 1), ⟨⟨qt3, ((Option.some (0, 2)), ((Option.some ((0, 3), (y161, (0, y162)))), (y163, ())))⟩, []⟩), ((0, 2), ⟨⟨qt1, (y164, (y165, (y166, ())))⟩, []⟩), ((0, 3), ⟨⟨(.arr (Nat.succ y167) (List.length y168) qt0), y168⟩, []⟩)]) ∧
   ((((decide (y160 = (0 : Int))) = true) →
    (∃ y170 : Int,
    (∃ y171 : Int,
    (∃ y172 : Int,
    (∃ y173 : Int,
    (Need (E 30 [(.op (0, 0) [])] [((0, 0), ⟨⟨qt1, (y164, (y165, (y166, ())))⟩, []⟩)] (.tv [] (.int .i64) y170) [((0, 0), ⟨⟨qt1, (y171, (y172, (y173, ())))⟩, []⟩)]) ∧
    ((((decide (y170 = (0 : Int))) = true) →
     (∃ y175 : Int,
     (∃ y176 : Nat,
     (∃ y177 : Nat,
     (∃ y178 : Int,
     (∃ y179 : Int,
     (∃ y180 : Int,
     (∃ y181 : Int,
     (∃ y182 : Nat,
     (∃ y183 : qT0,
     (Need (E 29 [(.op (0, 0) [])] [((0, 0), ⟨⟨qt9, ((Option.some (0, 1)), ())⟩, []⟩), ((0, 1), ⟨⟨qt3, ((Option.some (0, 2)), ((Option.some ((0, 3), (y161, (0, y162)))), (y163, ())))⟩, []⟩), ((0, 2), ⟨⟨qt1, (y171, (y172, (y173, ())))⟩, []⟩), ((0, 3), ⟨⟨(.arr (Nat.succ y167) (List.length y168) qt0), y168⟩, []⟩)] (.tv [] (.int .i64) y175) [((0, 0), ⟨⟨qt9, ((Option.some (0, 1)), ())⟩, []⟩), ((0, 1), ⟨⟨qt3, ((Option.some (0, 2)), ((Option.some ((0, 3), (y176, (0, y177)))), (y178, ())))⟩, []⟩), ((0, 2), ⟨⟨qt1, (y179, (y180, (y181, ())))⟩, []⟩), ((0, 3), ⟨⟨(.arr (Nat.succ y182) (List.length y183) qt0), y183⟩, []⟩)]) ∧
     (Q (.tv [] .bool (decide (y175 = (0 : Int)))) [])))))))))))) ∧
    (((decide (y170 = (0 : Int))) = false) →
    (Q (.tv [] .bool false) []))))))))) ∧
   (((decide (y160 = (0 : Int))) = false) →
   (Q (.tv [] .bool false) [])))))))))))))) ∧
  (((decide (y150 = y140)) = false) →
  (Q (.tv [] .bool false) [])))))))))))))) ∧
 ((y0 = false) →
 (Q (.tv [] .bool false) []))))))))))))))))))))))))))))))))))))))))))))))))))))))))))))))))))))))))) : EvF PP orc 6 [.tv [] qt7 (x0_0, (x0_1, (x0_2, (x0_3, (x0_4, (x0_5, (x0_6, ()))))))), .tv [] (.int .i64) x1, .tv [] (.slice qt8) x2] [] Q := vcF_ok (sg := sg) (Eq.mp (by kernel_rfl) h)
theorem vc26 (x0 : Int) (Q : AV → Heap → Prop) (h :
((((decide (x0 < (0 : Int))) = true) →
  (Q (.tv [] (.int .i64) (0 : Int)) [])) ∧
 (((decide (x0 < (0 : Int))) = false) →
 ((((decide ((1099511627776 : Int) < x0)) = true) →
  (Q (.tv [] (.int .i64) (1099511627776 : Int)) [])) ∧
 (((decide ((1099511627776 : Int) < x0)) = false) →
 (Q (.tv [] (.int .i64) x0) [])))))) : EvF PP orc 26 [.tv [] (.int .i64) x0] [] Q := vcF_ok (sg := sg) (Eq.mp (by kernel_rfl) h)
end Go.Am.T
