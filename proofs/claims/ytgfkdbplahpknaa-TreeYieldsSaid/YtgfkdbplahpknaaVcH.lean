/-
  A part of the proof of a law: see the text that states it.
-/
import Derived.Test.YtgfkdbplahpknaaHead
set_option linter.all false
namespace Go.Am.T
open Go
set_option maxRecDepth 100000
set_option maxHeartbeats 4000000
theorem vc7 (x0_0 : Int) (x0_1 : Int) (x0_2 : List (Int)) (x0_3 : List (List (Int))) (x0_4 : List (Int)) (x0_5 : List (Int)) (x0_6 : List (Int)) (x1 : List ((Int × (Int × (Int × ((Int × (Int × (Int × Unit))) × (List (Int) × Unit))))))) (Q : AV → Heap → Prop) (h :
(∃ y0 : Bool,
 (Need (E 9 [] [] (.tv [] .bool y0) []) ∧
 (∃ y1 : Bool,
 (Need (E 20 [(.tv [] qt7 (x0_0, (x0_1, (x0_2, (x0_3, (x0_4, (x0_5, (x0_6, ())))))))), (.tv [] (.int .i64) (20 : Int)), (.tv [] (.int .i64) (8 : Int))] [] (.tv [] .bool y1) []) ∧
 (∃ y2 : Bool,
 (Need (E 21 [(.tv [] (.slice qt8) x1)] [] (.tv [] .bool y2) []) ∧
 ((((!y1) = true) →
  (Q (.tv [] .bool y0) [])) ∧
 (((!y1) = false) →
 ((((!y2) = true) →
  (Q (.tv [] .bool y0) [])) ∧
 (((!y2) = false) →
 (∃ y7 : qT7,
 (∃ y8 : qT7,
 (∃ y9 : qT4,
 (∃ y10 : qT2,
 (∃ y11 : qT2,
 (∃ y12 : qT7,
 (Need (E 23 [(.tv [] qt7 (x0_0, (x0_1, (x0_2, (x0_3, (x0_4, (x0_5, (x0_6, ()))))))))] [] (.tv [] qt5 (y7, (y8, (y9, (y10, (y11, (y12, ()))))))) []) ∧
 ((∃ y13 : Nat,
  (∃ y14 : Nat,
  (∃ y15 : Nat,
  (∃ y16 : qT1,
  (∃ y17 : Int,
  (∃ y18 : Int,
  (∃ y19 : Int,
  (∃ y20 : Nat,
  (∃ y21 : qT0,
  (∃ y22 : Nat,
  (∃ y23 : Nat,
  (∃ y24 : Int,
  (∃ y25 : Int,
  (∃ y26 : Int,
  (∃ y27 : Int,
  (Need (E 22 [(.tv [] qt5 (y7, (y8, (y9, (y10, (y11, (y12, ()))))))), (.tv [] (.slice qt8) x1)] [] (.tup [(.op (1, 0) []), (.op (1, 1) [])]) [((1, 1), ⟨⟨qt6, ((Option.some (1, 3)), ((Option.some ((1, 4), (y13, (0, y14)))), ()))⟩, []⟩), ((1, 4), ⟨⟨(.arr (Nat.succ y15) (List.length y16) qt2), y16⟩, []⟩), ((1, 3), ⟨⟨qt1, (y17, (y18, (y19, ())))⟩, []⟩), ((1, 6), ⟨⟨(.arr (Nat.succ y20) (List.length y21) qt0), y21⟩, []⟩), ((1, 2), ⟨⟨qt3, ((Option.some (1, 5)), ((Option.some ((1, 6), (y22, (0, y23)))), (y24, ())))⟩, []⟩), ((1, 0), ⟨⟨qt9, ((Option.some (1, 2)), ())⟩, []⟩), ((1, 5), ⟨⟨qt1, (y25, (y26, (y27, ())))⟩, []⟩)]) ∧
  (((false = true) →
   (Q (.tv [] .bool false) [])) ∧
  ((false = false) →
  (∃ y30 : (Int → (Int → (qT0 → (Int → (Int → (Int → (Int → (qT1 → (Int → (Int → (Int → (Int → (Int → (Int → (Int → (Int → Prop)))))))))))))))),
  (∃ y31 : (Int → (Int → (qT0 → (Int → (Int → (Int → (Int → (qT1 → (Int → (Int → (Int → (Int → (Int → (Int → (Int → (Int → Nat)))))))))))))))),
  (Need (((List.length y21) = (List.length y21)) ∧ ((List.length y16) = (List.length y16))) ∧
  ((y30 (0 : Int) (y20 : Int) y21 y25 y26 y27 (y15 : Int) y16 y17 y18 y19 (y22 : Int) (y23 : Int) y24 (y13 : Int) (y14 : Int)) ∧
  (∀ z32 : Int,
  (∀ z33 : Int,
  (∀ z34 : qT0,
  (∀ z35 : Int,
  (∀ z36 : Int,
  (∀ z37 : Int,
  (∀ z38 : Int,
  (∀ z39 : qT1,
  (∀ z40 : Int,
  (∀ z41 : Int,
  (∀ z42 : Int,
  (∀ z43 : Int,
  (∀ z44 : Int,
  (∀ z45 : Int,
  (∀ z46 : Int,
  (∀ z47 : Int,
  ((y30 z32 z33 z34 z35 z36 z37 z38 z39 z40 z41 z42 z43 z44 z45 z46 z47) →
  (∃ y49 : Int,
  (∃ y50 : Nat,
  (∃ y51 : Nat,
  (∃ y52 : Int,
  (∃ y53 : Int,
  (∃ y54 : Int,
  (∃ y55 : Int,
  (∃ y56 : Nat,
  (∃ y57 : qT0,
  (Need (E 24 [(.op (0, 0) [])] [((0, 0), ⟨⟨qt9, ((Option.some (0, 1)), ())⟩, []⟩), ((0, 1), ⟨⟨qt3, ((Option.some (0, 2)), ((Option.some ((0, 3), ((Int.toNat z43), (0, (Int.toNat z44))))), (z45, ())))⟩, []⟩), ((0, 2), ⟨⟨qt1, (z35, (z36, (z37, ())))⟩, []⟩), ((0, 3), ⟨⟨(.arr (Nat.succ (Int.toNat z33)) (List.length z34) qt0), z34⟩, []⟩)] (.tv [] (.int .i64) y49) [((0, 0), ⟨⟨qt9, ((Option.some (0, 1)), ())⟩, []⟩), ((0, 1), ⟨⟨qt3, ((Option.some (0, 2)), ((Option.some ((0, 3), (y50, (0, y51)))), (y52, ())))⟩, []⟩), ((0, 2), ⟨⟨qt1, (y53, (y54, (y55, ())))⟩, []⟩), ((0, 3), ⟨⟨(.arr (Nat.succ y56) (List.length y57) qt0), y57⟩, []⟩)]) ∧
  ((((decide (z32 < y49)) = true) →
   (∃ y59 : qT2,
   (∃ y60 : Nat,
   (∃ y61 : Nat,
   (∃ y62 : Int,
   (∃ y63 : Int,
   (∃ y64 : Int,
   (∃ y65 : Int,
   (∃ y66 : Nat,
   (∃ y67 : qT0,
   (Need (E 14 [(.op (0, 0) []), (.tv [] (.int .i64) z32)] [((0, 0), ⟨⟨qt9, ((Option.some (0, 1)), ())⟩, []⟩), ((0, 1), ⟨⟨qt3, ((Option.some (0, 2)), ((Option.some ((0, 3), (y50, (0, y51)))), (y52, ())))⟩, []⟩), ((0, 2), ⟨⟨qt1, (y53, (y54, (y55, ())))⟩, []⟩), ((0, 3), ⟨⟨(.arr (Nat.succ y56) (List.length y57) qt0), y57⟩, []⟩)] (.tv [[]] qt12 y59) [((0, 0), ⟨⟨qt9, ((Option.some (0, 1)), ())⟩, []⟩), ((0, 1), ⟨⟨qt3, ((Option.some (0, 2)), ((Option.some ((0, 3), (y60, (0, y61)))), (y62, ())))⟩, []⟩), ((0, 2), ⟨⟨qt1, (y63, (y64, (y65, ())))⟩, []⟩), ((0, 3), ⟨⟨(.arr (Nat.succ y66) (List.length y67) qt0), y67⟩, []⟩)]) ∧
   (∃ y68 : (qT8 → (Int → (Int → (qT0 → (Int → (Int → (Int → (Int → (qT1 → (Int → (Int → (Int → (Int → (Int → (Int → (Int → (Int → Prop))))))))))))))))),
   (∃ y69 : (qT8 → (Int → (Int → (qT0 → (Int → (Int → (Int → (Int → (qT1 → (Int → (Int → (Int → (Int → (Int → (Int → (Int → (Int → Nat))))))))))))))))),
   (Need (((List.length y67) = (List.length y67)) ∧ ((List.length z39) = (List.length z39))) ∧
   ((y68 [] (0 : Int) (y66 : Int) y67 y63 y64 y65 ((Int.toNat z38) : Int) z39 z40 z41 z42 (y60 : Int) (y61 : Int) y62 ((Int.toNat z46) : Int) ((Int.toNat z47) : Int)) ∧
   (∀ z70 : qT8,
   (∀ z71 : Int,
   (∀ z72 : Int,
   (∀ z73 : qT0,
   (∀ z74 : Int,
   (∀ z75 : Int,
   (∀ z76 : Int,
   (∀ z77 : Int,
   (∀ z78 : qT1,
   (∀ z79 : Int,
   (∀ z80 : Int,
   (∀ z81 : Int,
   (∀ z82 : Int,
   (∀ z83 : Int,
   (∀ z84 : Int,
   (∀ z85 : Int,
   (∀ z86 : Int,
   ((y68 z70 z71 z72 z73 z74 z75 z76 z77 z78 z79 z80 z81 z82 z83 z84 z85 z86) →
   ((((decide (z71 < ((List.length y59) : Int))) = true) →
    (Need (((0 : Int) ≤ z71) ∧ (z71 < ((List.length y59) : Int))) ∧
    (∃ y89 : qT8,
    (∃ y90 : Nat,
    (∃ y91 : Nat,
    (∃ y92 : Int,
    (∃ y93 : Int,
    (∃ y94 : Int,
    (∃ y95 : Int,
    (∃ y96 : Nat,
    (∃ y97 : qT0,
    (Need (E 32 [(.op (0, 0) []), (.tv [] (.int .i64) (List.getD y59 (Int.toNat z71) (0 : Int)))] [((0, 0), ⟨⟨qt9, ((Option.some (0, 1)), ())⟩, []⟩), ((0, 1), ⟨⟨qt3, ((Option.some (0, 2)), ((Option.some ((0, 3), ((Int.toNat z82), (0, (Int.toNat z83))))), (z84, ())))⟩, []⟩), ((0, 2), ⟨⟨qt1, (z74, (z75, (z76, ())))⟩, []⟩), ((0, 3), ⟨⟨(.arr (Nat.succ (Int.toNat z72)) (List.length z73) qt0), z73⟩, []⟩)] (.tv [[]] (.slice qt1) y89) [((0, 0), ⟨⟨qt9, ((Option.some (0, 1)), ())⟩, []⟩), ((0, 1), ⟨⟨qt3, ((Option.some (0, 2)), ((Option.some ((0, 3), (y90, (0, y91)))), (y92, ())))⟩, []⟩), ((0, 2), ⟨⟨qt1, (y93, (y94, (y95, ())))⟩, []⟩), ((0, 3), ⟨⟨(.arr (Nat.succ y96) (List.length y97) qt0), y97⟩, []⟩)]) ∧
    (Need (((List.length z70) + (List.length y89)) ≤ bigN) ∧
    (Need (((-9223372036854775808 : Int) ≤ (z71 + (1 : Int))) ∧ ((z71 + (1 : Int)) ≤ (9223372036854775807 : Int))) ∧
    (Need (((List.length y97) = (List.length y97)) ∧ ((List.length z78) = (List.length z78))) ∧
    ((y68 (z70 ++ y89) (z71 + (1 : Int)) (y96 : Int) y97 y93 y94 y95 ((Int.toNat z77) : Int) z78 z79 z80 z81 (y90 : Int) (y91 : Int) y92 ((Int.toNat z85) : Int) ((Int.toNat z86) : Int)) ∧
    Need ((y69 (z70 ++ y89) (z71 + (1 : Int)) (y96 : Int) y97 y93 y94 y95 ((Int.toNat z77) : Int) z78 z79 z80 z81 (y90 : Int) (y91 : Int) y92 ((Int.toNat z85) : Int) ((Int.toNat z86) : Int)) < (y69 z70 z71 z72 z73 z74 z75 z76 z77 z78 z79 z80 z81 z82 z83 z84 z85 z86)))))))))))))))))) ∧
   (((decide (z71 < ((List.length y59) : Int))) = false) →
   (∃ y99 : qT2,
   (∃ y100 : Nat,
   (∃ y101 : Nat,
   (∃ y102 : Int,
   (∃ y103 : Int,
   (∃ y104 : Int,
   (∃ y105 : Int,
   (∃ y106 : Nat,
   (∃ y107 : qT0,
   (Need (E 16 [(.op (0, 0) []), (.tv [] (.int .i64) z32)] [((0, 0), ⟨⟨qt9, ((Option.some (0, 1)), ())⟩, []⟩), ((0, 1), ⟨⟨qt3, ((Option.some (0, 2)), ((Option.some ((0, 3), ((Int.toNat z82), (0, (Int.toNat z83))))), (z84, ())))⟩, []⟩), ((0, 2), ⟨⟨qt1, (z74, (z75, (z76, ())))⟩, []⟩), ((0, 3), ⟨⟨(.arr (Nat.succ (Int.toNat z72)) (List.length z73) qt0), z73⟩, []⟩)] (.tv [[]] qt12 y99) [((0, 0), ⟨⟨qt9, ((Option.some (0, 1)), ())⟩, []⟩), ((0, 1), ⟨⟨qt3, ((Option.some (0, 2)), ((Option.some ((0, 3), (y100, (0, y101)))), (y102, ())))⟩, []⟩), ((0, 2), ⟨⟨qt1, (y103, (y104, (y105, ())))⟩, []⟩), ((0, 3), ⟨⟨(.arr (Nat.succ y106) (List.length y107) qt0), y107⟩, []⟩)]) ∧
   (∃ y108 : qT8,
   (∃ y109 : Nat,
   (∃ y110 : Nat,
   (∃ y111 : Int,
   (∃ y112 : Int,
   (∃ y113 : Int,
   (∃ y114 : Int,
   (∃ y115 : Nat,
   (∃ y116 : qT0,
   (Need (E 32 [(.op (0, 0) []), (.tv [] (.int .i64) z32)] [((0, 0), ⟨⟨qt9, ((Option.some (0, 1)), ())⟩, []⟩), ((0, 1), ⟨⟨qt3, ((Option.some (0, 2)), ((Option.some ((0, 3), (y100, (0, y101)))), (y102, ())))⟩, []⟩), ((0, 2), ⟨⟨qt1, (y103, (y104, (y105, ())))⟩, []⟩), ((0, 3), ⟨⟨(.arr (Nat.succ y106) (List.length y107) qt0), y107⟩, []⟩)] (.tv [[]] (.slice qt1) y108) [((0, 0), ⟨⟨qt9, ((Option.some (0, 1)), ())⟩, []⟩), ((0, 1), ⟨⟨qt3, ((Option.some (0, 2)), ((Option.some ((0, 3), (y109, (0, y110)))), (y111, ())))⟩, []⟩), ((0, 2), ⟨⟨qt1, (y112, (y113, (y114, ())))⟩, []⟩), ((0, 3), ⟨⟨(.arr (Nat.succ y115) (List.length y116) qt0), y116⟩, []⟩)]) ∧
   ((((decide (((List.length y99) : Int) = (1 : Int))) = true) →
    ((((decide (((List.length y59) : Int) = (0 : Int))) = true) →
     ((((decide ((1 : Int) < ((List.length y108) : Int))) = true) →
      (Q (.tv [] .bool false) [])) ∧
     (((decide ((1 : Int) < ((List.length y108) : Int))) = false) →
     ((((decide (((List.length y108) : Int) = (1 : Int))) = true) →
      (Need (((0 : Int) ≤ (0 : Int)) ∧ ((0 : Int) < ((List.length y108) : Int))) ∧
      (∃ y122 : Int,
      (∃ y123 : Int,
      (∃ y124 : Int,
      (∃ y125 : Nat,
      (∃ y126 : Nat,
      (∃ y127 : Int,
      (∃ y128 : Int,
      (∃ y129 : Int,
      (∃ y130 : Int,
      (∃ y131 : Nat,
      (∃ y132 : qT0,
      (Need (E 17 [(.op (0, 0) []), (.tv [] (.int .i64) z32)] [((0, 0), ⟨⟨qt9, ((Option.some (0, 1)), ())⟩, []⟩), ((0, 1), ⟨⟨qt3, ((Option.some (0, 2)), ((Option.some ((0, 3), (y109, (0, y110)))), (y111, ())))⟩, []⟩), ((0, 2), ⟨⟨qt1, (y112, (y113, (y114, ())))⟩, []⟩), ((0, 3), ⟨⟨(.arr (Nat.succ y115) (List.length y116) qt0), y116⟩, []⟩)] (.tv [] qt1 (y122, (y123, (y124, ())))) [((0, 0), ⟨⟨qt9, ((Option.some (0, 1)), ())⟩, []⟩), ((0, 1), ⟨⟨qt3, ((Option.some (0, 2)), ((Option.some ((0, 3), (y125, (0, y126)))), (y127, ())))⟩, []⟩), ((0, 2), ⟨⟨qt1, (y128, (y129, (y130, ())))⟩, []⟩), ((0, 3), ⟨⟨(.arr (Nat.succ y131) (List.length y132) qt0), y132⟩, []⟩)]) ∧
      ((((!((decide ((List.getD y108 0 ((0 : Int), ((0 : Int), ((0 : Int), ())))).1 = y122)) && ((decide ((List.getD y108 0 ((0 : Int), ((0 : Int), ((0 : Int), ())))).2.1 = y123)) && ((decide ((List.getD y108 0 ((0 : Int), ((0 : Int), ((0 : Int), ())))).2.2.1 = y124)) && true)))) = true) →
       (Q (.tv [] .bool false) [])) ∧
      (((!((decide ((List.getD y108 0 ((0 : Int), ((0 : Int), ((0 : Int), ())))).1 = y122)) && ((decide ((List.getD y108 0 ((0 : Int), ((0 : Int), ((0 : Int), ())))).2.1 = y123)) && ((decide ((List.getD y108 0 ((0 : Int), ((0 : Int), ((0 : Int), ())))).2.2.1 = y124)) && true)))) = false) →
      (Need (((-9223372036854775808 : Int) ≤ (z32 + (1 : Int))) ∧ ((z32 + (1 : Int)) ≤ (9223372036854775807 : Int))) ∧
      (Need (((List.length y132) = (List.length y132)) ∧ ((List.length z78) = (List.length z78))) ∧
      ((y30 (z32 + (1 : Int)) (y131 : Int) y132 y128 y129 y130 ((Int.toNat z77) : Int) z78 z79 z80 z81 (y125 : Int) (y126 : Int) y127 ((Int.toNat z85) : Int) ((Int.toNat z86) : Int)) ∧
      Need ((y31 (z32 + (1 : Int)) (y131 : Int) y132 y128 y129 y130 ((Int.toNat z77) : Int) z78 z79 z80 z81 (y125 : Int) (y126 : Int) y127 ((Int.toNat z85) : Int) ((Int.toNat z86) : Int)) < (y31 z32 z33 z34 z35 z36 z37 z38 z39 z40 z41 z42 z43 z44 z45 z46 z47))))))))))))))))))))) ∧
     (((decide (((List.length y108) : Int) = (1 : Int))) = false) →
     (Need (((-9223372036854775808 : Int) ≤ (z32 + (1 : Int))) ∧ ((z32 + (1 : Int)) ≤ (9223372036854775807 : Int))) ∧
     (Need (((List.length y116) = (List.length y116)) ∧ ((List.length z78) = (List.length z78))) ∧
     ((y30 (z32 + (1 : Int)) (y115 : Int) y116 y112 y113 y114 ((Int.toNat z77) : Int) z78 z79 z80 z81 (y109 : Int) (y110 : Int) y111 ((Int.toNat z85) : Int) ((Int.toNat z86) : Int)) ∧
     Need ((y31 (z32 + (1 : Int)) (y115 : Int) y116 y112 y113 y114 ((Int.toNat z77) : Int) z78 z79 z80 z81 (y109 : Int) (y110 : Int) y111 ((Int.toNat z85) : Int) ((Int.toNat z86) : Int)) < (y31 z32 z33 z34 z35 z36 z37 z38 z39 z40 z41 z42 z43 z44 z45 z46 z47)))))))))) ∧
    (((decide (((List.length y59) : Int) = (0 : Int))) = false) →
    (∃ y137 : Bool,
    (Need (E 33 [(.tv [] (.slice qt1) y108), (.tv [] (.slice qt1) z70)] [] (.tv [] .bool y137) []) ∧
    ((((!y137) = true) →
     (Q (.tv [] .bool false) [])) ∧
    (((!y137) = false) →
    (Need (((-9223372036854775808 : Int) ≤ (z32 + (1 : Int))) ∧ ((z32 + (1 : Int)) ≤ (9223372036854775807 : Int))) ∧
    (Need (((List.length y116) = (List.length y116)) ∧ ((List.length z78) = (List.length z78))) ∧
    ((y30 (z32 + (1 : Int)) (y115 : Int) y116 y112 y113 y114 ((Int.toNat z77) : Int) z78 z79 z80 z81 (y109 : Int) (y110 : Int) y111 ((Int.toNat z85) : Int) ((Int.toNat z86) : Int)) ∧
    Need ((y31 (z32 + (1 : Int)) (y115 : Int) y116 y112 y113 y114 ((Int.toNat z77) : Int) z78 z79 z80 z81 (y109 : Int) (y110 : Int) y111 ((Int.toNat z85) : Int) ((Int.toNat z86) : Int)) < (y31 z32 z33 z34 z35 z36 z37 z38 z39 z40 z41 z42 z43 z44 z45 z46 z47)))))))))))) ∧
   (((decide (((List.length y99) : Int) = (1 : Int))) = false) →
   (∃ y141 : Bool,
   (Need (E 33 [(.tv [] (.slice qt1) y108), (.tv [] (.slice qt1) z70)] [] (.tv [] .bool y141) []) ∧
   ((((!y141) = true) →
    (Q (.tv [] .bool false) [])) ∧
   (((!y141) = false) →
   (Need (((-9223372036854775808 : Int) ≤ (z32 + (1 : Int))) ∧ ((z32 + (1 : Int)) ≤ (9223372036854775807 : Int))) ∧
   (Need (((List.length y116) = (List.length y116)) ∧ ((List.length z78) = (List.length z78))) ∧
   ((y30 (z32 + (1 : Int)) (y115 : Int) y116 y112 y113 y114 ((Int.toNat z77) : Int) z78 z79 z80 z81 (y109 : Int) (y110 : Int) y111 ((Int.toNat z85) : Int) ((Int.toNat z86) : Int)) ∧
   Need ((y31 (z32 + (1 : Int)) (y115 : Int) y116 y112 y113 y114 ((Int.toNat z77) : Int) z78 z79 z80 z81 (y109 : Int) (y110 : Int) y111 ((Int.toNat z85) : Int) ((Int.toNat z86) : Int)) < (y31 z32 z33 z34 z35 z36 z37 z38 z39 z40 z41 z42 z43 z44 z45 z46 z47)))))))))))))))))))))))))))))))))))))))))))))))))))))))))))))))))) ∧
  (((decide (z32 < y49)) = false) →
  (Q (.tv [] .bool y0) [])))))))))))))))))))))))))))))))))))))))))))))))))))) ∨
 (∃ y145 : Nat,
 (∃ y146 : Nat,
 (∃ y147 : Nat,
 (∃ y148 : qT1,
 (∃ y149 : Int,
 (∃ y150 : Int,
 (∃ y151 : Int,
 (Need (E 22 [(.tv [] qt5 (y7, (y8, (y9, (y10, (y11, (y12, ()))))))), (.tv [] (.slice qt8) x1)] [] (.tup [(.tv [] .ref (Option.none )), (.op (1, 0) [])]) [((1, 0), ⟨⟨qt6, ((Option.some (1, 1)), ((Option.some ((1, 2), (y145, (0, y146)))), ()))⟩, []⟩), ((1, 2), ⟨⟨(.arr (Nat.succ y147) (List.length y148) qt2), y148⟩, []⟩), ((1, 1), ⟨⟨qt1, (y149, (y150, (y151, ())))⟩, []⟩)]) ∧
 (((true = true) →
  (Q (.tv [] .bool false) [])) ∧
 ((true = false) →
 (∃ y154 : (Int → (Int → (qT1 → (Int → (Int → (Int → (Int → (Int → Prop)))))))),
 (∃ y155 : (Int → (Int → (qT1 → (Int → (Int → (Int → (Int → (Int → Nat)))))))),
 (Need ((List.length y148) = (List.length y148)) ∧
 ((y154 (0 : Int) (y147 : Int) y148 y149 y150 y151 (y145 : Int) (y146 : Int)) ∧
 (∀ z156 : Int,
 (∀ z157 : Int,
 (∀ z158 : qT1,
 (∀ z159 : Int,
 (∀ z160 : Int,
 (∀ z161 : Int,
 (∀ z162 : Int,
 (∀ z163 : Int,
 ((y154 z156 z157 z158 z159 z160 z161 z162 z163) →
 (∃ y165 : Int,
 (∃ y166 : Nat,
 (∃ y167 : Nat,
 (∃ y168 : Int,
 (∃ y169 : Int,
 (∃ y170 : Int,
 (∃ y171 : Int,
 (∃ y172 : Nat,
 (∃ y173 : qT0,
 (Need (E 24 [(.tv [] .ref (Option.none ))] [] (.tv [] (.int .i64) y165) [((0, 0), ⟨⟨qt9, ((Option.some (0, 1)), ())⟩, []⟩), ((0, 1), ⟨⟨qt3, ((Option.some (0, 2)), ((Option.some ((0, 3), (y166, (0, y167)))), (y168, ())))⟩, []⟩), ((0, 2), ⟨⟨qt1, (y169, (y170, (y171, ())))⟩, []⟩), ((0, 3), ⟨⟨(.arr (Nat.succ y172) (List.length y173) qt0), y173⟩, []⟩)]) ∧
 ((((decide (z156 < y165)) = true) →
  (∃ y175 : qT2,
  (∃ y176 : Nat,
  (∃ y177 : Nat,
  (∃ y178 : Int,
  (∃ y179 : Int,
  (∃ y180 : Int,
  (∃ y181 : Int,
  (∃ y182 : Nat,
  (∃ y183 : qT0,
  (Need (E 14 [(.tv [] .ref (Option.none )), (.tv [] (.int .i64) z156)] [] (.tv [[]] qt12 y175) [((0, 0), ⟨⟨qt9, ((Option.some (0, 1)), ())⟩, []⟩), ((0, 1), ⟨⟨qt3, ((Option.some (0, 2)), ((Option.some ((0, 3), (y176, (0, y177)))), (y178, ())))⟩, []⟩), ((0, 2), ⟨⟨qt1, (y179, (y180, (y181, ())))⟩, []⟩), ((0, 3), ⟨⟨(.arr (Nat.succ y182) (List.length y183) qt0), y183⟩, []⟩)]) ∧
  (∃ y184 : (qT8 → (Int → (Int → (qT1 → (Int → (Int → (Int → (Int → (Int → Prop))))))))),
  (∃ y185 : (qT8 → (Int → (Int → (qT1 → (Int → (Int → (Int → (Int → (Int → Nat))))))))),
  (Need ((List.length z158) = (List.length z158)) ∧
  ((y184 [] (0 : Int) ((Int.toNat z157) : Int) z158 z159 z160 z161 ((Int.toNat z162) : Int) ((Int.toNat z163) : Int)) ∧
  (∀ z186 : qT8,
  (∀ z187 : Int,
  (∀ z188 : Int,
  (∀ z189 : qT1,
  (∀ z190 : Int,
  (∀ z191 : Int,
  (∀ z192 : Int,
  (∀ z193 : Int,
  (∀ z194 : Int,
  ((y184 z186 z187 z188 z189 z190 z191 z192 z193 z194) →
  ((((decide (z187 < ((List.length y175) : Int))) = true) →
   (Need (((0 : Int) ≤ z187) ∧ (z187 < ((List.length y175) : Int))) ∧
   (∃ y197 : qT8,
   (∃ y198 : Nat,
   (∃ y199 : Nat,
   (∃ y200 : Int,
   (∃ y201 : Int,
   (∃ y202 : Int,
   (∃ y203 : Int,
   (∃ y204 : Nat,
   (∃ y205 : qT0,
   (Need (E 32 [(.tv [] .ref (Option.none )), (.tv [] (.int .i64) (List.getD y175 (Int.toNat z187) (0 : Int)))] [] (.tv [[]] (.slice qt1) y197) [((0, 0), ⟨⟨qt9, ((Option.some (0, 1)), ())⟩, []⟩), ((0, 1), ⟨⟨qt3, ((Option.some (0, 2)), ((Option.some ((0, 3), (y198, (0, y199)))), (y200, ())))⟩, []⟩), ((0, 2), ⟨⟨qt1, (y201, (y202, (y203, ())))⟩, []⟩), ((0, 3), ⟨⟨(.arr (Nat.succ y204) (List.length y205) qt0), y205⟩, []⟩)]) ∧
   (Need (((List.length z186) + (List.length y197)) ≤ bigN) ∧
   (Need (((-9223372036854775808 : Int) ≤ (z187 + (1 : Int))) ∧ ((z187 + (1 : Int)) ≤ (9223372036854775807 : Int))) ∧
   (Need ((List.length z189) = (List.length z189)) ∧
   ((y184 (z186 ++ y197) (z187 + (1 : Int)) ((Int.toNat z188) : Int) z189 z190 z191 z192 ((Int.toNat z193) : Int) ((Int.toNat z194) : Int)) ∧
   Need ((y185 (z186 ++ y197) (z187 + (1 : Int)) ((Int.toNat z188) : Int) z189 z190 z191 z192 ((Int.toNat z193) : Int) ((Int.toNat z194) : Int)) < (y185 z186 z187 z188 z189 z190 z191 z192 z193 z194)))))))))))))))))) ∧
  (((decide (z187 < ((List.length y175) : Int))) = false) →
  (∃ y207 : qT2,
  (∃ y208 : Nat,
  (∃ y209 : Nat,
  (∃ y210 : Int,
  (∃ y211 : Int,
  (∃ y212 : Int,
  (∃ y213 : Int,
  (∃ y214 : Nat,
  (∃ y215 : qT0,
  (Need (E 16 [(.tv [] .ref (Option.none )), (.tv [] (.int .i64) z156)] [] (.tv [[]] qt12 y207) [((0, 0), ⟨⟨qt9, ((Option.some (0, 1)), ())⟩, []⟩), ((0, 1), ⟨⟨qt3, ((Option.some (0, 2)), ((Option.some ((0, 3), (y208, (0, y209)))), (y210, ())))⟩, []⟩), ((0, 2), ⟨⟨qt1, (y211, (y212, (y213, ())))⟩, []⟩), ((0, 3), ⟨⟨(.arr (Nat.succ y214) (List.length y215) qt0), y215⟩, []⟩)]) ∧
  (∃ y216 : qT8,
  (∃ y217 : Nat,
  (∃ y218 : Nat,
  (∃ y219 : Int,
  (∃ y220 : Int,
  (∃ y221 : Int,
  (∃ y222 : Int,
  (∃ y223 : Nat,
  (∃ y224 : qT0,
  (Need (E 32 [(.tv [] .ref (Option.none )), (.tv [] (.int .i64) z156)] [] (.tv [[]] (.slice qt1) y216) [((0, 0), ⟨⟨qt9, ((Option.some (0, 1)), ())⟩, []⟩), ((0, 1), ⟨⟨qt3, ((Option.some (0, 2)), ((Option.some ((0, 3), (y217, (0, y218)))), (y219, ())))⟩, []⟩), ((0, 2), ⟨⟨qt1, (y220, (y221, (y222, ())))⟩, []⟩), ((0, 3), ⟨⟨(.arr (Nat.succ y223) (List.length y224) qt0), y224⟩, []⟩)]) ∧
  ((((decide (((List.length y207) : Int) = (1 : Int))) = true) →
   ((((decide (((List.length y175) : Int) = (0 : Int))) = true) →
    ((((decide ((1 : Int) < ((List.length y216) : Int))) = true) →
     (Q (.tv [] .bool false) [])) ∧
    (((decide ((1 : Int) < ((List.length y216) : Int))) = false) →
    ((((decide (((List.length y216) : Int) = (1 : Int))) = true) →
     (Need (((0 : Int) ≤ (0 : Int)) ∧ ((0 : Int) < ((List.length y216) : Int))) ∧
     (∃ y230 : Int,
     (∃ y231 : Int,
     (∃ y232 : Int,
     (∃ y233 : Nat,
     (∃ y234 : Nat,
     (∃ y235 : Int,
     (∃ y236 : Int,
     (∃ y237 : Int,
     (∃ y238 : Int,
     (∃ y239 : Nat,
     (∃ y240 : qT0,
     (Need (E 17 [(.tv [] .ref (Option.none )), (.tv [] (.int .i64) z156)] [] (.tv [] qt1 (y230, (y231, (y232, ())))) [((0, 0), ⟨⟨qt9, ((Option.some (0, 1)), ())⟩, []⟩), ((0, 1), ⟨⟨qt3, ((Option.some (0, 2)), ((Option.some ((0, 3), (y233, (0, y234)))), (y235, ())))⟩, []⟩), ((0, 2), ⟨⟨qt1, (y236, (y237, (y238, ())))⟩, []⟩), ((0, 3), ⟨⟨(.arr (Nat.succ y239) (List.length y240) qt0), y240⟩, []⟩)]) ∧
     ((((!((decide ((List.getD y216 0 ((0 : Int), ((0 : Int), ((0 : Int), ())))).1 = y230)) && ((decide ((List.getD y216 0 ((0 : Int), ((0 : Int), ((0 : Int), ())))).2.1 = y231)) && ((decide ((List.getD y216 0 ((0 : Int), ((0 : Int), ((0 : Int), ())))).2.2.1 = y232)) && true)))) = true) →
      (Q (.tv [] .bool false) [])) ∧
     (((!((decide ((List.getD y216 0 ((0 : Int), ((0 : Int), ((0 : Int), ())))).1 = y230)) && ((decide ((List.getD y216 0 ((0 : Int), ((0 : Int), ((0 : Int), ())))).2.1 = y231)) && ((decide ((List.getD y216 0 ((0 : Int), ((0 : Int), ((0 : Int), ())))).2.2.1 = y232)) && true)))) = false) →
     (Need (((-9223372036854775808 : Int) ≤ (z156 + (1 : Int))) ∧ ((z156 + (1 : Int)) ≤ (9223372036854775807 : Int))) ∧
     (Need ((List.length z189) = (List.length z189)) ∧
     ((y154 (z156 + (1 : Int)) ((Int.toNat z188) : Int) z189 z190 z191 z192 ((Int.toNat z193) : Int) ((Int.toNat z194) : Int)) ∧
     Need ((y155 (z156 + (1 : Int)) ((Int.toNat z188) : Int) z189 z190 z191 z192 ((Int.toNat z193) : Int) ((Int.toNat z194) : Int)) < (y155 z156 z157 z158 z159 z160 z161 z162 z163))))))))))))))))))))) ∧
    (((decide (((List.length y216) : Int) = (1 : Int))) = false) →
    (Need (((-9223372036854775808 : Int) ≤ (z156 + (1 : Int))) ∧ ((z156 + (1 : Int)) ≤ (9223372036854775807 : Int))) ∧
    (Need ((List.length z189) = (List.length z189)) ∧
    ((y154 (z156 + (1 : Int)) ((Int.toNat z188) : Int) z189 z190 z191 z192 ((Int.toNat z193) : Int) ((Int.toNat z194) : Int)) ∧
    Need ((y155 (z156 + (1 : Int)) ((Int.toNat z188) : Int) z189 z190 z191 z192 ((Int.toNat z193) : Int) ((Int.toNat z194) : Int)) < (y155 z156 z157 z158 z159 z160 z161 z162 z163)))))))))) ∧
   (((decide (((List.length y175) : Int) = (0 : Int))) = false) →
   (∃ y245 : Bool,
   (Need (E 33 [(.tv [] (.slice qt1) y216), (.tv [] (.slice qt1) z186)] [] (.tv [] .bool y245) []) ∧
   ((((!y245) = true) →
    (Q (.tv [] .bool false) [])) ∧
   (((!y245) = false) →
   (Need (((-9223372036854775808 : Int) ≤ (z156 + (1 : Int))) ∧ ((z156 + (1 : Int)) ≤ (9223372036854775807 : Int))) ∧
   (Need ((List.length z189) = (List.length z189)) ∧
   ((y154 (z156 + (1 : Int)) ((Int.toNat z188) : Int) z189 z190 z191 z192 ((Int.toNat z193) : Int) ((Int.toNat z194) : Int)) ∧
   Need ((y155 (z156 + (1 : Int)) ((Int.toNat z188) : Int) z189 z190 z191 z192 ((Int.toNat z193) : Int) ((Int.toNat z194) : Int)) < (y155 z156 z157 z158 z159 z160 z161 z162 z163)))))))))))) ∧
  (((decide (((List.length y207) : Int) = (1 : Int))) = false) →
  (∃ y249 : Bool,
  (Need (E 33 [(.tv [] (.slice qt1) y216), (.tv [] (.slice qt1) z186)] [] (.tv [] .bool y249) []) ∧
  ((((!y249) = true) →
   (Q (.tv [] .bool false) [])) ∧
  (((!y249) = false) →
  (Need (((-9223372036854775808 : Int) ≤ (z156 + (1 : Int))) ∧ ((z156 + (1 : Int)) ≤ (9223372036854775807 : Int))) ∧
  (Need ((List.length z189) = (List.length z189)) ∧
  ((y154 (z156 + (1 : Int)) ((Int.toNat z188) : Int) z189 z190 z191 z192 ((Int.toNat z193) : Int) ((Int.toNat z194) : Int)) ∧
  Need ((y155 (z156 + (1 : Int)) ((Int.toNat z188) : Int) z189 z190 z191 z192 ((Int.toNat z193) : Int) ((Int.toNat z194) : Int)) < (y155 z156 z157 z158 z159 z160 z161 z162 z163)))))))))))))))))))))))))))))))))))))))))))))))))))))))))) ∧
 (((decide (z156 < y165)) = false) →
 (Q (.tv [] .bool y0) []))))))))))))))))))))))))))))))))))))))))))))))))))))))) : EvF PP orc 7 [.tv [] qt7 (x0_0, (x0_1, (x0_2, (x0_3, (x0_4, (x0_5, (x0_6, ()))))))), .tv [] (.slice qt8) x1] [] Q := vcF_ok (sg := sg) (Eq.mp (by kernel_rfl) h)
end Go.Am.T
