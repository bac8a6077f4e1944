/-
  A part of the proof of a law: see the text that states it.
-/
import Derived.Test.YtgfkdbplahpknaaHead
set_option linter.all false
namespace Go.Am.T
open Go
set_option maxRecDepth 100000
set_option maxHeartbeats 4000000
theorem vc4 (x0_0 : Int) (x0_1 : Int) (x0_2 : List (Int)) (x0_3 : List (List (Int))) (x0_4 : List (Int)) (x0_5 : List (Int)) (x0_6 : List (Int)) (x1 : List ((Int × (Int × (Int × ((Int × (Int × (Int × Unit))) × (List (Int) × Unit))))))) (Q : AV → Heap → Prop) (h :
(∃ y0 : Bool,
 (Need (E 9 [] [] (.tv [] .bool y0) []) ∧
 (∃ y1 : Bool,
 (Need (E 20 [(.tv [] qt7 (x0_0, (x0_1, (x0_2, (x0_3, (x0_4, (x0_5, (x0_6, ())))))))), (.tv [] (.int .i64) (20 : Int)), (.tv [] (.int .i64) (8 : Int))] [] (.tv [] .bool y1) []) ∧
 (∃ y2 : Bool,
 (Need (E 21 [(.tv [] (.slice qt8) x1)] [] (.tv [] .bool y2) []) ∧
 ((((!y1) = true) →
  (Q (.tv [] .bool y0) [])) ∧
 (((!y1) = false) →
 ((((!y2) = true) →
  (Q (.tv [] .bool y0) [])) ∧
 (((!y2) = false) →
 (∃ y7 : qT7,
 (∃ y8 : qT7,
 (∃ y9 : qT4,
 (∃ y10 : qT2,
 (∃ y11 : qT2,
 (∃ y12 : qT7,
 (Need (E 23 [(.tv [] qt7 (x0_0, (x0_1, (x0_2, (x0_3, (x0_4, (x0_5, (x0_6, ()))))))))] [] (.tv [] qt5 (y7, (y8, (y9, (y10, (y11, (y12, ()))))))) []) ∧
 ((∃ y13 : Nat,
  (∃ y14 : Nat,
  (∃ y15 : Nat,
  (∃ y16 : qT1,
  (∃ y17 : Int,
  (∃ y18 : Int,
  (∃ y19 : Int,
  (∃ y20 : Nat,
  (∃ y21 : qT0,
  (∃ y22 : Nat,
  (∃ y23 : Nat,
  (∃ y24 : Int,
  (∃ y25 : Int,
  (∃ y26 : Int,
  (∃ y27 : Int,
  (Need (E 22 [(.tv [] qt5 (y7, (y8, (y9, (y10, (y11, (y12, ()))))))), (.tv [] (.slice qt8) x1)] [] (.tup [(.op (1, 0) []), (.op (1, 1) [])]) [((1, 1), ⟨⟨qt6, ((Option.some (1, 3)), ((Option.some ((1, 4), (y13, (0, y14)))), ()))⟩, []⟩), ((1, 4), ⟨⟨(.arr (Nat.succ y15) (List.length y16) qt2), y16⟩, []⟩), ((1, 3), ⟨⟨qt1, (y17, (y18, (y19, ())))⟩, []⟩), ((1, 6), ⟨⟨(.arr (Nat.succ y20) (List.length y21) qt0), y21⟩, []⟩), ((1, 2), ⟨⟨qt3, ((Option.some (1, 5)), ((Option.some ((1, 6), (y22, (0, y23)))), (y24, ())))⟩, []⟩), ((1, 0), ⟨⟨qt9, ((Option.some (1, 2)), ())⟩, []⟩), ((1, 5), ⟨⟨qt1, (y25, (y26, (y27, ())))⟩, []⟩)]) ∧
  (((false = true) →
   (Q (.tv [] .bool false) [])) ∧
  ((false = false) →
  (∃ y30 : Int,
  (∃ y31 : Nat,
  (∃ y32 : Nat,
  (∃ y33 : Int,
  (∃ y34 : Int,
  (∃ y35 : Int,
  (∃ y36 : Int,
  (∃ y37 : Nat,
  (∃ y38 : qT0,
  (Need (E 24 [(.op (0, 0) [])] [((0, 0), ⟨⟨qt9, ((Option.some (0, 1)), ())⟩, []⟩), ((0, 1), ⟨⟨qt3, ((Option.some (0, 2)), ((Option.some ((0, 3), (y22, (0, y23)))), (y24, ())))⟩, []⟩), ((0, 2), ⟨⟨qt1, (y25, (y26, (y27, ())))⟩, []⟩), ((0, 3), ⟨⟨(.arr (Nat.succ y20) (List.length y21) qt0), y21⟩, []⟩)] (.tv [] (.int .i64) y30) [((0, 0), ⟨⟨qt9, ((Option.some (0, 1)), ())⟩, []⟩), ((0, 1), ⟨⟨qt3, ((Option.some (0, 2)), ((Option.some ((0, 3), (y31, (0, y32)))), (y33, ())))⟩, []⟩), ((0, 2), ⟨⟨qt1, (y34, (y35, (y36, ())))⟩, []⟩), ((0, 3), ⟨⟨(.arr (Nat.succ y37) (List.length y38) qt0), y38⟩, []⟩)]) ∧
  (Need ((y30 = y30) ∧ (((0 : Int) ≤ y30) ∧ (y30 ≤ (65536 : Int)))) ∧
  (Need ((y30 = y30) ∧ (((0 : Int) ≤ y30) ∧ (y30 ≤ (65536 : Int)))) ∧
  (∃ y39 : (Int → (Int → ((List Bool) → (Int → (qT2 → (Int → (qT0 → (Int → (Int → (Int → (Int → (qT1 → (Int → (Int → (Int → (Int → (Int → (Int → (Int → (Int → Prop)))))))))))))))))))),
  (∃ y40 : (Int → (Int → ((List Bool) → (Int → (qT2 → (Int → (qT0 → (Int → (Int → (Int → (Int → (qT1 → (Int → (Int → (Int → (Int → (Int → (Int → (Int → (Int → Nat)))))))))))))))))))),
  (Need (((Int.toNat y30) = (List.length (List.replicate (Int.toNat y30) false))) ∧ (((Int.toNat y30) = (List.length (List.replicate (Int.toNat y30) (0 : Int)))) ∧ (((List.length y38) = (List.length y38)) ∧ ((List.length y16) = (List.length y16))))) ∧
  ((y39 (0 : Int) ((0 : Nat) : Int) (List.replicate (Int.toNat y30) false) ((0 : Nat) : Int) (List.replicate (Int.toNat y30) (0 : Int)) (y37 : Int) y38 y34 y35 y36 (y15 : Int) y16 y17 y18 y19 (y31 : Int) (y32 : Int) y33 (y13 : Int) (y14 : Int)) ∧
  (∀ z41 : Int,
  (∀ z42 : Int,
  (∀ z43 : (List Bool),
  (∀ z44 : Int,
  (∀ z45 : qT2,
  (∀ z46 : Int,
  (∀ z47 : qT0,
  (∀ z48 : Int,
  (∀ z49 : Int,
  (∀ z50 : Int,
  (∀ z51 : Int,
  (∀ z52 : qT1,
  (∀ z53 : Int,
  (∀ z54 : Int,
  (∀ z55 : Int,
  (∀ z56 : Int,
  (∀ z57 : Int,
  (∀ z58 : Int,
  (∀ z59 : Int,
  (∀ z60 : Int,
  ((y39 z41 z42 z43 z44 z45 z46 z47 z48 z49 z50 z51 z52 z53 z54 z55 z56 z57 z58 z59 z60) →
  ((((decide (z41 < y30)) = true) →
   (∃ y63 : qT2,
   (∃ y64 : Nat,
   (∃ y65 : Nat,
   (∃ y66 : Int,
   (∃ y67 : Int,
   (∃ y68 : Int,
   (∃ y69 : Int,
   (∃ y70 : Nat,
   (∃ y71 : qT0,
   (Need (E 14 [(.op (0, 0) []), (.tv [] (.int .i64) z41)] [((0, 0), ⟨⟨qt9, ((Option.some (0, 1)), ())⟩, []⟩), ((0, 1), ⟨⟨qt3, ((Option.some (0, 2)), ((Option.some ((0, 3), ((Int.toNat z56), (0, (Int.toNat z57))))), (z58, ())))⟩, []⟩), ((0, 2), ⟨⟨qt1, (z48, (z49, (z50, ())))⟩, []⟩), ((0, 3), ⟨⟨(.arr (Nat.succ (Int.toNat z46)) (List.length z47) qt0), z47⟩, []⟩)] (.tv [[]] qt12 y63) [((0, 0), ⟨⟨qt9, ((Option.some (0, 1)), ())⟩, []⟩), ((0, 1), ⟨⟨qt3, ((Option.some (0, 2)), ((Option.some ((0, 3), (y64, (0, y65)))), (y66, ())))⟩, []⟩), ((0, 2), ⟨⟨qt1, (y67, (y68, (y69, ())))⟩, []⟩), ((0, 3), ⟨⟨(.arr (Nat.succ y70) (List.length y71) qt0), y71⟩, []⟩)]) ∧
   (∃ y72 : (Int → (Int → ((List Bool) → (Int → (qT2 → (Int → (qT0 → (Int → (Int → (Int → (Int → (qT1 → (Int → (Int → (Int → (Int → (Int → (Int → (Int → (Int → Prop)))))))))))))))))))),
   (∃ y73 : (Int → (Int → ((List Bool) → (Int → (qT2 → (Int → (qT0 → (Int → (Int → (Int → (Int → (qT1 → (Int → (Int → (Int → (Int → (Int → (Int → (Int → (Int → Nat)))))))))))))))))))),
   (Need (((List.length z43) = (List.length z43)) ∧ (((List.length z45) = (List.length z45)) ∧ (((List.length y71) = (List.length y71)) ∧ ((List.length z52) = (List.length z52))))) ∧
   ((y72 (0 : Int) ((Int.toNat z42) : Int) z43 ((Int.toNat z44) : Int) z45 (y70 : Int) y71 y67 y68 y69 ((Int.toNat z51) : Int) z52 z53 z54 z55 (y64 : Int) (y65 : Int) y66 ((Int.toNat z59) : Int) ((Int.toNat z60) : Int)) ∧
   (∀ z74 : Int,
   (∀ z75 : Int,
   (∀ z76 : (List Bool),
   (∀ z77 : Int,
   (∀ z78 : qT2,
   (∀ z79 : Int,
   (∀ z80 : qT0,
   (∀ z81 : Int,
   (∀ z82 : Int,
   (∀ z83 : Int,
   (∀ z84 : Int,
   (∀ z85 : qT1,
   (∀ z86 : Int,
   (∀ z87 : Int,
   (∀ z88 : Int,
   (∀ z89 : Int,
   (∀ z90 : Int,
   (∀ z91 : Int,
   (∀ z92 : Int,
   (∀ z93 : Int,
   ((y72 z74 z75 z76 z77 z78 z79 z80 z81 z82 z83 z84 z85 z86 z87 z88 z89 z90 z91 z92 z93) →
   ((((decide (z74 < ((List.length y63) : Int))) = true) →
    (Need (((0 : Int) ≤ z74) ∧ (z74 < ((List.length y63) : Int))) ∧
    ((((decide ((List.getD y63 (Int.toNat z74) (0 : Int)) < (0 : Int))) = true) →
     (Q (.tv [] .bool false) [])) ∧
    (((decide ((List.getD y63 (Int.toNat z74) (0 : Int)) < (0 : Int))) = false) →
    (Need (((0 : Int) ≤ z74) ∧ (z74 < ((List.length y63) : Int))) ∧
    ((((decide (z41 ≤ (List.getD y63 (Int.toNat z74) (0 : Int)))) = true) →
     (Q (.tv [] .bool false) [])) ∧
    (((decide (z41 ≤ (List.getD y63 (Int.toNat z74) (0 : Int)))) = false) →
    (Need (((0 : Int) ≤ z74) ∧ (z74 < ((List.length y63) : Int))) ∧
    (Need (((0 : Int) ≤ (List.getD y63 (Int.toNat z74) (0 : Int))) ∧ ((List.getD y63 (Int.toNat z74) (0 : Int)) < ((Int.toNat y30) : Int))) ∧
    (Need ((Int.toNat z75) = 0) ∧
    (Need ((0 + (Int.toNat (List.getD y63 (Int.toNat z74) (0 : Int)))) < (List.length z76)) ∧
    ((((List.getD z76 (0 + (Int.toNat (List.getD y63 (Int.toNat z74) (0 : Int)))) false) = true) →
     (Q (.tv [] .bool false) [])) ∧
    (((List.getD z76 (0 + (Int.toNat (List.getD y63 (Int.toNat z74) (0 : Int)))) false) = false) →
    (Need (((0 : Int) ≤ z74) ∧ (z74 < ((List.length y63) : Int))) ∧
    (Need (((0 : Int) ≤ (List.getD y63 (Int.toNat z74) (0 : Int))) ∧ ((List.getD y63 (Int.toNat z74) (0 : Int)) < ((Int.toNat y30) : Int))) ∧
    (Need ((Int.toNat z75) = 0) ∧
    (Need ((0 + (Int.toNat (List.getD y63 (Int.toNat z74) (0 : Int)))) < (List.length z76)) ∧
    (Need (((-9223372036854775808 : Int) ≤ (z74 + (1 : Int))) ∧ ((z74 + (1 : Int)) ≤ (9223372036854775807 : Int))) ∧
    (Need (((List.length z76) = (List.length (List.set z76 (0 + (Int.toNat (List.getD y63 (Int.toNat z74) (0 : Int)))) true))) ∧ (((List.length z78) = (List.length z78)) ∧ (((List.length z80) = (List.length z80)) ∧ ((List.length z85) = (List.length z85))))) ∧
    ((y72 (z74 + (1 : Int)) ((Int.toNat z75) : Int) (List.set z76 (0 + (Int.toNat (List.getD y63 (Int.toNat z74) (0 : Int)))) true) ((Int.toNat z77) : Int) z78 ((Int.toNat z79) : Int) z80 z81 z82 z83 ((Int.toNat z84) : Int) z85 z86 z87 z88 ((Int.toNat z89) : Int) ((Int.toNat z90) : Int) z91 ((Int.toNat z92) : Int) ((Int.toNat z93) : Int)) ∧
    Need ((y73 (z74 + (1 : Int)) ((Int.toNat z75) : Int) (List.set z76 (0 + (Int.toNat (List.getD y63 (Int.toNat z74) (0 : Int)))) true) ((Int.toNat z77) : Int) z78 ((Int.toNat z79) : Int) z80 z81 z82 z83 ((Int.toNat z84) : Int) z85 z86 z87 z88 ((Int.toNat z89) : Int) ((Int.toNat z90) : Int) z91 ((Int.toNat z92) : Int) ((Int.toNat z93) : Int)) < (y73 z74 z75 z76 z77 z78 z79 z80 z81 z82 z83 z84 z85 z86 z87 z88 z89 z90 z91 z92 z93)))))))))))))))))))))) ∧
   (((decide (z74 < ((List.length y63) : Int))) = false) →
   (Need (((-9223372036854775808 : Int) ≤ (z41 + (1 : Int))) ∧ ((z41 + (1 : Int)) ≤ (9223372036854775807 : Int))) ∧
   (Need (((List.length z76) = (List.length z76)) ∧ (((List.length z78) = (List.length z78)) ∧ (((List.length z80) = (List.length z80)) ∧ ((List.length z85) = (List.length z85))))) ∧
   ((y39 (z41 + (1 : Int)) ((Int.toNat z75) : Int) z76 ((Int.toNat z77) : Int) z78 ((Int.toNat z79) : Int) z80 z81 z82 z83 ((Int.toNat z84) : Int) z85 z86 z87 z88 ((Int.toNat z89) : Int) ((Int.toNat z90) : Int) z91 ((Int.toNat z92) : Int) ((Int.toNat z93) : Int)) ∧
   Need ((y40 (z41 + (1 : Int)) ((Int.toNat z75) : Int) z76 ((Int.toNat z77) : Int) z78 ((Int.toNat z79) : Int) z80 z81 z82 z83 ((Int.toNat z84) : Int) z85 z86 z87 z88 ((Int.toNat z89) : Int) ((Int.toNat z90) : Int) z91 ((Int.toNat z92) : Int) ((Int.toNat z93) : Int)) < (y40 z41 z42 z43 z44 z45 z46 z47 z48 z49 z50 z51 z52 z53 z54 z55 z56 z57 z58 z59 z60))))))))))))))))))))))))))))))))))))))))))) ∧
  (((decide (z41 < y30)) = false) →
  (∃ y104 : (Int → (Int → ((List Bool) → (Int → (qT2 → (Int → (qT0 → (Int → (Int → (Int → (Int → (qT1 → (Int → (Int → (Int → (Int → (Int → (Int → (Int → (Int → Prop)))))))))))))))))))),
  (∃ y105 : (Int → (Int → ((List Bool) → (Int → (qT2 → (Int → (qT0 → (Int → (Int → (Int → (Int → (qT1 → (Int → (Int → (Int → (Int → (Int → (Int → (Int → (Int → Nat)))))))))))))))))))),
  (Need (((List.length z43) = (List.length z43)) ∧ (((List.length z45) = (List.length z45)) ∧ (((List.length z47) = (List.length z47)) ∧ ((List.length z52) = (List.length z52))))) ∧
  ((y104 (0 : Int) ((Int.toNat z42) : Int) z43 ((Int.toNat z44) : Int) z45 ((Int.toNat z46) : Int) z47 z48 z49 z50 ((Int.toNat z51) : Int) z52 z53 z54 z55 ((Int.toNat z56) : Int) ((Int.toNat z57) : Int) z58 ((Int.toNat z59) : Int) ((Int.toNat z60) : Int)) ∧
  (∀ z106 : Int,
  (∀ z107 : Int,
  (∀ z108 : (List Bool),
  (∀ z109 : Int,
  (∀ z110 : qT2,
  (∀ z111 : Int,
  (∀ z112 : qT0,
  (∀ z113 : Int,
  (∀ z114 : Int,
  (∀ z115 : Int,
  (∀ z116 : Int,
  (∀ z117 : qT1,
  (∀ z118 : Int,
  (∀ z119 : Int,
  (∀ z120 : Int,
  (∀ z121 : Int,
  (∀ z122 : Int,
  (∀ z123 : Int,
  (∀ z124 : Int,
  (∀ z125 : Int,
  ((y104 z106 z107 z108 z109 z110 z111 z112 z113 z114 z115 z116 z117 z118 z119 z120 z121 z122 z123 z124 z125) →
  ((((decide (z106 < y30)) = true) →
   (Need (((0 : Int) ≤ z106) ∧ (z106 < ((Int.toNat y30) : Int))) ∧
   (Need ((Int.toNat z107) = 0) ∧
   (Need ((0 + (Int.toNat z106)) < (List.length z108)) ∧
   ((((List.getD z108 (0 + (Int.toNat z106)) false) = true) →
    (Need (((-9223372036854775808 : Int) ≤ (z106 + (1 : Int))) ∧ ((z106 + (1 : Int)) ≤ (9223372036854775807 : Int))) ∧
    (Need (((List.length z108) = (List.length z108)) ∧ (((List.length z110) = (List.length z110)) ∧ (((List.length z112) = (List.length z112)) ∧ ((List.length z117) = (List.length z117))))) ∧
    ((y104 (z106 + (1 : Int)) ((Int.toNat z107) : Int) z108 ((Int.toNat z109) : Int) z110 ((Int.toNat z111) : Int) z112 z113 z114 z115 ((Int.toNat z116) : Int) z117 z118 z119 z120 ((Int.toNat z121) : Int) ((Int.toNat z122) : Int) z123 ((Int.toNat z124) : Int) ((Int.toNat z125) : Int)) ∧
    Need ((y105 (z106 + (1 : Int)) ((Int.toNat z107) : Int) z108 ((Int.toNat z109) : Int) z110 ((Int.toNat z111) : Int) z112 z113 z114 z115 ((Int.toNat z116) : Int) z117 z118 z119 z120 ((Int.toNat z121) : Int) ((Int.toNat z122) : Int) z123 ((Int.toNat z124) : Int) ((Int.toNat z125) : Int)) < (y105 z106 z107 z108 z109 z110 z111 z112 z113 z114 z115 z116 z117 z118 z119 z120 z121 z122 z123 z124 z125)))))) ∧
   (((List.getD z108 (0 + (Int.toNat z106)) false) = false) →
   (∃ y130 : qT2,
   (∃ y131 : Nat,
   (∃ y132 : Nat,
   (∃ y133 : Int,
   (∃ y134 : Int,
   (∃ y135 : Int,
   (∃ y136 : Int,
   (∃ y137 : Nat,
   (∃ y138 : qT0,
   (Need (E 16 [(.op (0, 0) []), (.tv [] (.int .i64) z106)] [((0, 0), ⟨⟨qt9, ((Option.some (0, 1)), ())⟩, []⟩), ((0, 1), ⟨⟨qt3, ((Option.some (0, 2)), ((Option.some ((0, 3), ((Int.toNat z121), (0, (Int.toNat z122))))), (z123, ())))⟩, []⟩), ((0, 2), ⟨⟨qt1, (z113, (z114, (z115, ())))⟩, []⟩), ((0, 3), ⟨⟨(.arr (Nat.succ (Int.toNat z111)) (List.length z112) qt0), z112⟩, []⟩)] (.tv [[]] qt12 y130) [((0, 0), ⟨⟨qt9, ((Option.some (0, 1)), ())⟩, []⟩), ((0, 1), ⟨⟨qt3, ((Option.some (0, 2)), ((Option.some ((0, 3), (y131, (0, y132)))), (y133, ())))⟩, []⟩), ((0, 2), ⟨⟨qt1, (y134, (y135, (y136, ())))⟩, []⟩), ((0, 3), ⟨⟨(.arr (Nat.succ y137) (List.length y138) qt0), y138⟩, []⟩)]) ∧
   (∃ y139 : (Int → (Int → ((List Bool) → (Int → (qT2 → (Int → (qT0 → (Int → (Int → (Int → (Int → (qT1 → (Int → (Int → (Int → (Int → (Int → (Int → (Int → (Int → Prop)))))))))))))))))))),
   (∃ y140 : (Int → (Int → ((List Bool) → (Int → (qT2 → (Int → (qT0 → (Int → (Int → (Int → (Int → (qT1 → (Int → (Int → (Int → (Int → (Int → (Int → (Int → (Int → Nat)))))))))))))))))))),
   (Need (((List.length z108) = (List.length z108)) ∧ (((List.length z110) = (List.length z110)) ∧ (((List.length y138) = (List.length y138)) ∧ ((List.length z117) = (List.length z117))))) ∧
   ((y139 (0 : Int) ((Int.toNat z107) : Int) z108 ((Int.toNat z109) : Int) z110 (y137 : Int) y138 y134 y135 y136 ((Int.toNat z116) : Int) z117 z118 z119 z120 (y131 : Int) (y132 : Int) y133 ((Int.toNat z124) : Int) ((Int.toNat z125) : Int)) ∧
   (∀ z141 : Int,
   (∀ z142 : Int,
   (∀ z143 : (List Bool),
   (∀ z144 : Int,
   (∀ z145 : qT2,
   (∀ z146 : Int,
   (∀ z147 : qT0,
   (∀ z148 : Int,
   (∀ z149 : Int,
   (∀ z150 : Int,
   (∀ z151 : Int,
   (∀ z152 : qT1,
   (∀ z153 : Int,
   (∀ z154 : Int,
   (∀ z155 : Int,
   (∀ z156 : Int,
   (∀ z157 : Int,
   (∀ z158 : Int,
   (∀ z159 : Int,
   (∀ z160 : Int,
   ((y139 z141 z142 z143 z144 z145 z146 z147 z148 z149 z150 z151 z152 z153 z154 z155 z156 z157 z158 z159 z160) →
   ((((decide (z141 < ((List.length y130) : Int))) = true) →
    (Need (((0 : Int) ≤ z141) ∧ (z141 < ((List.length y130) : Int))) ∧
    ((((decide ((List.getD y130 (Int.toNat z141) (0 : Int)) < (0 : Int))) = true) →
     (Q (.tv [] .bool false) [])) ∧
    (((decide ((List.getD y130 (Int.toNat z141) (0 : Int)) < (0 : Int))) = false) →
    (Need (((0 : Int) ≤ z141) ∧ (z141 < ((List.length y130) : Int))) ∧
    ((((decide (y30 ≤ (List.getD y130 (Int.toNat z141) (0 : Int)))) = true) →
     (Q (.tv [] .bool false) [])) ∧
    (((decide (y30 ≤ (List.getD y130 (Int.toNat z141) (0 : Int)))) = false) →
    (Need (((0 : Int) ≤ z141) ∧ (z141 < ((List.length y130) : Int))) ∧
    (Need (((0 : Int) ≤ (List.getD y130 (Int.toNat z141) (0 : Int))) ∧ ((List.getD y130 (Int.toNat z141) (0 : Int)) < ((Int.toNat y30) : Int))) ∧
    (Need ((Int.toNat z144) = 0) ∧
    (Need ((0 + (Int.toNat (List.getD y130 (Int.toNat z141) (0 : Int)))) < (List.length z145)) ∧
    (Need (((-9223372036854775808 : Int) ≤ ((List.getD z145 (0 + (Int.toNat (List.getD y130 (Int.toNat z141) (0 : Int)))) (0 : Int)) + (1 : Int))) ∧ (((List.getD z145 (0 + (Int.toNat (List.getD y130 (Int.toNat z141) (0 : Int)))) (0 : Int)) + (1 : Int)) ≤ (9223372036854775807 : Int))) ∧
    (Need (((0 : Int) ≤ (List.getD y130 (Int.toNat z141) (0 : Int))) ∧ ((List.getD y130 (Int.toNat z141) (0 : Int)) < ((Int.toNat y30) : Int))) ∧
    (Need ((Int.toNat z144) = 0) ∧
    (Need ((0 + (Int.toNat (List.getD y130 (Int.toNat z141) (0 : Int)))) < (List.length z145)) ∧
    (Need (((-9223372036854775808 : Int) ≤ (z141 + (1 : Int))) ∧ ((z141 + (1 : Int)) ≤ (9223372036854775807 : Int))) ∧
    (Need (((List.length z143) = (List.length z143)) ∧ (((List.length z145) = (List.length (List.set z145 (0 + (Int.toNat (List.getD y130 (Int.toNat z141) (0 : Int)))) ((List.getD z145 (0 + (Int.toNat (List.getD y130 (Int.toNat z141) (0 : Int)))) (0 : Int)) + (1 : Int))))) ∧ (((List.length z147) = (List.length z147)) ∧ ((List.length z152) = (List.length z152))))) ∧
    ((y139 (z141 + (1 : Int)) ((Int.toNat z142) : Int) z143 ((Int.toNat z144) : Int) (List.set z145 (0 + (Int.toNat (List.getD y130 (Int.toNat z141) (0 : Int)))) ((List.getD z145 (0 + (Int.toNat (List.getD y130 (Int.toNat z141) (0 : Int)))) (0 : Int)) + (1 : Int))) ((Int.toNat z146) : Int) z147 z148 z149 z150 ((Int.toNat z151) : Int) z152 z153 z154 z155 ((Int.toNat z156) : Int) ((Int.toNat z157) : Int) z158 ((Int.toNat z159) : Int) ((Int.toNat z160) : Int)) ∧
    Need ((y140 (z141 + (1 : Int)) ((Int.toNat z142) : Int) z143 ((Int.toNat z144) : Int) (List.set z145 (0 + (Int.toNat (List.getD y130 (Int.toNat z141) (0 : Int)))) ((List.getD z145 (0 + (Int.toNat (List.getD y130 (Int.toNat z141) (0 : Int)))) (0 : Int)) + (1 : Int))) ((Int.toNat z146) : Int) z147 z148 z149 z150 ((Int.toNat z151) : Int) z152 z153 z154 z155 ((Int.toNat z156) : Int) ((Int.toNat z157) : Int) z158 ((Int.toNat z159) : Int) ((Int.toNat z160) : Int)) < (y140 z141 z142 z143 z144 z145 z146 z147 z148 z149 z150 z151 z152 z153 z154 z155 z156 z157 z158 z159 z160)))))))))))))))))))) ∧
   (((decide (z141 < ((List.length y130) : Int))) = false) →
   ((((decide (((List.length y130) : Int) = (0 : Int))) = true) →
    (Q (.tv [] .bool false) [])) ∧
   (((decide (((List.length y130) : Int) = (0 : Int))) = false) →
   (Need (((-9223372036854775808 : Int) ≤ (((List.length y130) : Int) - (1 : Int))) ∧ ((((List.length y130) : Int) - (1 : Int)) ≤ (9223372036854775807 : Int))) ∧
   (Need (((0 : Int) ≤ (((List.length y130) : Int) - (1 : Int))) ∧ ((((List.length y130) : Int) - (1 : Int)) < ((List.length y130) : Int))) ∧
   ((((decide ((List.getD y130 (Int.toNat (((List.length y130) : Int) - (1 : Int))) (0 : Int)) ≠ z106)) = true) →
    (Q (.tv [] .bool false) [])) ∧
   (((decide ((List.getD y130 (Int.toNat (((List.length y130) : Int) - (1 : Int))) (0 : Int)) ≠ z106)) = false) →
   (Need (((-9223372036854775808 : Int) ≤ (z106 + (1 : Int))) ∧ ((z106 + (1 : Int)) ≤ (9223372036854775807 : Int))) ∧
   (Need (((List.length z143) = (List.length z143)) ∧ (((List.length z145) = (List.length z145)) ∧ (((List.length z147) = (List.length z147)) ∧ ((List.length z152) = (List.length z152))))) ∧
   ((y104 (z106 + (1 : Int)) ((Int.toNat z142) : Int) z143 ((Int.toNat z144) : Int) z145 ((Int.toNat z146) : Int) z147 z148 z149 z150 ((Int.toNat z151) : Int) z152 z153 z154 z155 ((Int.toNat z156) : Int) ((Int.toNat z157) : Int) z158 ((Int.toNat z159) : Int) ((Int.toNat z160) : Int)) ∧
   Need ((y105 (z106 + (1 : Int)) ((Int.toNat z142) : Int) z143 ((Int.toNat z144) : Int) z145 ((Int.toNat z146) : Int) z147 z148 z149 z150 ((Int.toNat z151) : Int) z152 z153 z154 z155 ((Int.toNat z156) : Int) ((Int.toNat z157) : Int) z158 ((Int.toNat z159) : Int) ((Int.toNat z160) : Int)) < (y105 z106 z107 z108 z109 z110 z111 z112 z113 z114 z115 z116 z117 z118 z119 z120 z121 z122 z123 z124 z125)))))))))))))))))))))))))))))))))))))))))))))))))))))) ∧
  (((decide (z106 < y30)) = false) →
  (∃ y173 : (Int → (Int → ((List Bool) → (Int → (qT2 → (Int → (qT0 → (Int → (Int → (Int → (Int → (qT1 → (Int → (Int → (Int → (Int → (Int → (Int → (Int → (Int → Prop)))))))))))))))))))),
  (∃ y174 : (Int → (Int → ((List Bool) → (Int → (qT2 → (Int → (qT0 → (Int → (Int → (Int → (Int → (qT1 → (Int → (Int → (Int → (Int → (Int → (Int → (Int → (Int → Nat)))))))))))))))))))),
  (Need (((List.length z108) = (List.length z108)) ∧ (((List.length z110) = (List.length z110)) ∧ (((List.length z112) = (List.length z112)) ∧ ((List.length z117) = (List.length z117))))) ∧
  ((y173 (0 : Int) ((Int.toNat z107) : Int) z108 ((Int.toNat z109) : Int) z110 ((Int.toNat z111) : Int) z112 z113 z114 z115 ((Int.toNat z116) : Int) z117 z118 z119 z120 ((Int.toNat z121) : Int) ((Int.toNat z122) : Int) z123 ((Int.toNat z124) : Int) ((Int.toNat z125) : Int)) ∧
  (∀ z175 : Int,
  (∀ z176 : Int,
  (∀ z177 : (List Bool),
  (∀ z178 : Int,
  (∀ z179 : qT2,
  (∀ z180 : Int,
  (∀ z181 : qT0,
  (∀ z182 : Int,
  (∀ z183 : Int,
  (∀ z184 : Int,
  (∀ z185 : Int,
  (∀ z186 : qT1,
  (∀ z187 : Int,
  (∀ z188 : Int,
  (∀ z189 : Int,
  (∀ z190 : Int,
  (∀ z191 : Int,
  (∀ z192 : Int,
  (∀ z193 : Int,
  (∀ z194 : Int,
  ((y173 z175 z176 z177 z178 z179 z180 z181 z182 z183 z184 z185 z186 z187 z188 z189 z190 z191 z192 z193 z194) →
  ((((decide (z175 < y30)) = true) →
   (Need (((0 : Int) ≤ z175) ∧ (z175 < ((Int.toNat y30) : Int))) ∧
   (Need ((Int.toNat z178) = 0) ∧
   (Need ((0 + (Int.toNat z175)) < (List.length z179)) ∧
   ((((decide ((List.getD z179 (0 + (Int.toNat z175)) (0 : Int)) ≠ (1 : Int))) = true) →
    (Q (.tv [] .bool false) [])) ∧
   (((decide ((List.getD z179 (0 + (Int.toNat z175)) (0 : Int)) ≠ (1 : Int))) = false) →
   (Need (((-9223372036854775808 : Int) ≤ (z175 + (1 : Int))) ∧ ((z175 + (1 : Int)) ≤ (9223372036854775807 : Int))) ∧
   (Need (((List.length z177) = (List.length z177)) ∧ (((List.length z179) = (List.length z179)) ∧ (((List.length z181) = (List.length z181)) ∧ ((List.length z186) = (List.length z186))))) ∧
   ((y173 (z175 + (1 : Int)) ((Int.toNat z176) : Int) z177 ((Int.toNat z178) : Int) z179 ((Int.toNat z180) : Int) z181 z182 z183 z184 ((Int.toNat z185) : Int) z186 z187 z188 z189 ((Int.toNat z190) : Int) ((Int.toNat z191) : Int) z192 ((Int.toNat z193) : Int) ((Int.toNat z194) : Int)) ∧
   Need ((y174 (z175 + (1 : Int)) ((Int.toNat z176) : Int) z177 ((Int.toNat z178) : Int) z179 ((Int.toNat z180) : Int) z181 z182 z183 z184 ((Int.toNat z185) : Int) z186 z187 z188 z189 ((Int.toNat z190) : Int) ((Int.toNat z191) : Int) z192 ((Int.toNat z193) : Int) ((Int.toNat z194) : Int)) < (y174 z175 z176 z177 z178 z179 z180 z181 z182 z183 z184 z185 z186 z187 z188 z189 z190 z191 z192 z193 z194))))))))))) ∧
  (((decide (z175 < y30)) = false) →
  (Q (.tv [] .bool y0) [])))))))))))))))))))))))))))))))))))))))))))))))))))))))))))))))))))))))))))))))))))))))))))))))))))))))))))))))) ∨
 (∃ y200 : Nat,
 (∃ y201 : Nat,
 (∃ y202 : Nat,
 (∃ y203 : qT1,
 (∃ y204 : Int,
 (∃ y205 : Int,
 (∃ y206 : Int,
 (Need (E 22 [(.tv [] qt5 (y7, (y8, (y9, (y10, (y11, (y12, ()))))))), (.tv [] (.slice qt8) x1)] [] (.tup [(.tv [] .ref (Option.none )), (.op (1, 0) [])]) [((1, 0), ⟨⟨qt6, ((Option.some (1, 1)), ((Option.some ((1, 2), (y200, (0, y201)))), ()))⟩, []⟩), ((1, 2), ⟨⟨(.arr (Nat.succ y202) (List.length y203) qt2), y203⟩, []⟩), ((1, 1), ⟨⟨qt1, (y204, (y205, (y206, ())))⟩, []⟩)]) ∧
 (((true = true) →
  (Q (.tv [] .bool false) [])) ∧
 ((true = false) →
 (∃ y209 : Int,
 (∃ y210 : Nat,
 (∃ y211 : Nat,
 (∃ y212 : Int,
 (∃ y213 : Int,
 (∃ y214 : Int,
 (∃ y215 : Int,
 (∃ y216 : Nat,
 (∃ y217 : qT0,
 (Need (E 24 [(.tv [] .ref (Option.none ))] [] (.tv [] (.int .i64) y209) [((0, 0), ⟨⟨qt9, ((Option.some (0, 1)), ())⟩, []⟩), ((0, 1), ⟨⟨qt3, ((Option.some (0, 2)), ((Option.some ((0, 3), (y210, (0, y211)))), (y212, ())))⟩, []⟩), ((0, 2), ⟨⟨qt1, (y213, (y214, (y215, ())))⟩, []⟩), ((0, 3), ⟨⟨(.arr (Nat.succ y216) (List.length y217) qt0), y217⟩, []⟩)]) ∧
 (Need ((y209 = y209) ∧ (((0 : Int) ≤ y209) ∧ (y209 ≤ (65536 : Int)))) ∧
 (Need ((y209 = y209) ∧ (((0 : Int) ≤ y209) ∧ (y209 ≤ (65536 : Int)))) ∧
 (∃ y218 : (Int → (Int → ((List Bool) → (Int → (qT2 → (Int → (qT1 → (Int → (Int → (Int → (Int → (Int → Prop)))))))))))),
 (∃ y219 : (Int → (Int → ((List Bool) → (Int → (qT2 → (Int → (qT1 → (Int → (Int → (Int → (Int → (Int → Nat)))))))))))),
 (Need (((Int.toNat y209) = (List.length (List.replicate (Int.toNat y209) false))) ∧ (((Int.toNat y209) = (List.length (List.replicate (Int.toNat y209) (0 : Int)))) ∧ ((List.length y203) = (List.length y203)))) ∧
 ((y218 (0 : Int) ((0 : Nat) : Int) (List.replicate (Int.toNat y209) false) ((0 : Nat) : Int) (List.replicate (Int.toNat y209) (0 : Int)) (y202 : Int) y203 y204 y205 y206 (y200 : Int) (y201 : Int)) ∧
 (∀ z220 : Int,
 (∀ z221 : Int,
 (∀ z222 : (List Bool),
 (∀ z223 : Int,
 (∀ z224 : qT2,
 (∀ z225 : Int,
 (∀ z226 : qT1,
 (∀ z227 : Int,
 (∀ z228 : Int,
 (∀ z229 : Int,
 (∀ z230 : Int,
 (∀ z231 : Int,
 ((y218 z220 z221 z222 z223 z224 z225 z226 z227 z228 z229 z230 z231) →
 ((((decide (z220 < y209)) = true) →
  (∃ y234 : qT2,
  (∃ y235 : Nat,
  (∃ y236 : Nat,
  (∃ y237 : Int,
  (∃ y238 : Int,
  (∃ y239 : Int,
  (∃ y240 : Int,
  (∃ y241 : Nat,
  (∃ y242 : qT0,
  (Need (E 14 [(.tv [] .ref (Option.none )), (.tv [] (.int .i64) z220)] [] (.tv [[]] qt12 y234) [((0, 0), ⟨⟨qt9, ((Option.some (0, 1)), ())⟩, []⟩), ((0, 1), ⟨⟨qt3, ((Option.some (0, 2)), ((Option.some ((0, 3), (y235, (0, y236)))), (y237, ())))⟩, []⟩), ((0, 2), ⟨⟨qt1, (y238, (y239, (y240, ())))⟩, []⟩), ((0, 3), ⟨⟨(.arr (Nat.succ y241) (List.length y242) qt0), y242⟩, []⟩)]) ∧
  (∃ y243 : (Int → (Int → ((List Bool) → (Int → (qT2 → (Int → (qT1 → (Int → (Int → (Int → (Int → (Int → Prop)))))))))))),
  (∃ y244 : (Int → (Int → ((List Bool) → (Int → (qT2 → (Int → (qT1 → (Int → (Int → (Int → (Int → (Int → Nat)))))))))))),
  (Need (((List.length z222) = (List.length z222)) ∧ (((List.length z224) = (List.length z224)) ∧ ((List.length z226) = (List.length z226)))) ∧
  ((y243 (0 : Int) ((Int.toNat z221) : Int) z222 ((Int.toNat z223) : Int) z224 ((Int.toNat z225) : Int) z226 z227 z228 z229 ((Int.toNat z230) : Int) ((Int.toNat z231) : Int)) ∧
  (∀ z245 : Int,
  (∀ z246 : Int,
  (∀ z247 : (List Bool),
  (∀ z248 : Int,
  (∀ z249 : qT2,
  (∀ z250 : Int,
  (∀ z251 : qT1,
  (∀ z252 : Int,
  (∀ z253 : Int,
  (∀ z254 : Int,
  (∀ z255 : Int,
  (∀ z256 : Int,
  ((y243 z245 z246 z247 z248 z249 z250 z251 z252 z253 z254 z255 z256) →
  ((((decide (z245 < ((List.length y234) : Int))) = true) →
   (Need (((0 : Int) ≤ z245) ∧ (z245 < ((List.length y234) : Int))) ∧
   ((((decide ((List.getD y234 (Int.toNat z245) (0 : Int)) < (0 : Int))) = true) →
    (Q (.tv [] .bool false) [])) ∧
   (((decide ((List.getD y234 (Int.toNat z245) (0 : Int)) < (0 : Int))) = false) →
   (Need (((0 : Int) ≤ z245) ∧ (z245 < ((List.length y234) : Int))) ∧
   ((((decide (z220 ≤ (List.getD y234 (Int.toNat z245) (0 : Int)))) = true) →
    (Q (.tv [] .bool false) [])) ∧
   (((decide (z220 ≤ (List.getD y234 (Int.toNat z245) (0 : Int)))) = false) →
   (Need (((0 : Int) ≤ z245) ∧ (z245 < ((List.length y234) : Int))) ∧
   (Need (((0 : Int) ≤ (List.getD y234 (Int.toNat z245) (0 : Int))) ∧ ((List.getD y234 (Int.toNat z245) (0 : Int)) < ((Int.toNat y209) : Int))) ∧
   (Need ((Int.toNat z246) = 0) ∧
   (Need ((0 + (Int.toNat (List.getD y234 (Int.toNat z245) (0 : Int)))) < (List.length z247)) ∧
   ((((List.getD z247 (0 + (Int.toNat (List.getD y234 (Int.toNat z245) (0 : Int)))) false) = true) →
    (Q (.tv [] .bool false) [])) ∧
   (((List.getD z247 (0 + (Int.toNat (List.getD y234 (Int.toNat z245) (0 : Int)))) false) = false) →
   (Need (((0 : Int) ≤ z245) ∧ (z245 < ((List.length y234) : Int))) ∧
   (Need (((0 : Int) ≤ (List.getD y234 (Int.toNat z245) (0 : Int))) ∧ ((List.getD y234 (Int.toNat z245) (0 : Int)) < ((Int.toNat y209) : Int))) ∧
   (Need ((Int.toNat z246) = 0) ∧
   (Need ((0 + (Int.toNat (List.getD y234 (Int.toNat z245) (0 : Int)))) < (List.length z247)) ∧
   (Need (((-9223372036854775808 : Int) ≤ (z245 + (1 : Int))) ∧ ((z245 + (1 : Int)) ≤ (9223372036854775807 : Int))) ∧
   (Need (((List.length z247) = (List.length (List.set z247 (0 + (Int.toNat (List.getD y234 (Int.toNat z245) (0 : Int)))) true))) ∧ (((List.length z249) = (List.length z249)) ∧ ((List.length z251) = (List.length z251)))) ∧
   ((y243 (z245 + (1 : Int)) ((Int.toNat z246) : Int) (List.set z247 (0 + (Int.toNat (List.getD y234 (Int.toNat z245) (0 : Int)))) true) ((Int.toNat z248) : Int) z249 ((Int.toNat z250) : Int) z251 z252 z253 z254 ((Int.toNat z255) : Int) ((Int.toNat z256) : Int)) ∧
   Need ((y244 (z245 + (1 : Int)) ((Int.toNat z246) : Int) (List.set z247 (0 + (Int.toNat (List.getD y234 (Int.toNat z245) (0 : Int)))) true) ((Int.toNat z248) : Int) z249 ((Int.toNat z250) : Int) z251 z252 z253 z254 ((Int.toNat z255) : Int) ((Int.toNat z256) : Int)) < (y244 z245 z246 z247 z248 z249 z250 z251 z252 z253 z254 z255 z256)))))))))))))))))))))) ∧
  (((decide (z245 < ((List.length y234) : Int))) = false) →
  (Need (((-9223372036854775808 : Int) ≤ (z220 + (1 : Int))) ∧ ((z220 + (1 : Int)) ≤ (9223372036854775807 : Int))) ∧
  (Need (((List.length z247) = (List.length z247)) ∧ (((List.length z249) = (List.length z249)) ∧ ((List.length z251) = (List.length z251)))) ∧
  ((y218 (z220 + (1 : Int)) ((Int.toNat z246) : Int) z247 ((Int.toNat z248) : Int) z249 ((Int.toNat z250) : Int) z251 z252 z253 z254 ((Int.toNat z255) : Int) ((Int.toNat z256) : Int)) ∧
  Need ((y219 (z220 + (1 : Int)) ((Int.toNat z246) : Int) z247 ((Int.toNat z248) : Int) z249 ((Int.toNat z250) : Int) z251 z252 z253 z254 ((Int.toNat z255) : Int) ((Int.toNat z256) : Int)) < (y219 z220 z221 z222 z223 z224 z225 z226 z227 z228 z229 z230 z231))))))))))))))))))))))))))))))))))) ∧
 (((decide (z220 < y209)) = false) →
 (∃ y267 : (Int → (Int → ((List Bool) → (Int → (qT2 → (Int → (qT1 → (Int → (Int → (Int → (Int → (Int → Prop)))))))))))),
 (∃ y268 : (Int → (Int → ((List Bool) → (Int → (qT2 → (Int → (qT1 → (Int → (Int → (Int → (Int → (Int → Nat)))))))))))),
 (Need (((List.length z222) = (List.length z222)) ∧ (((List.length z224) = (List.length z224)) ∧ ((List.length z226) = (List.length z226)))) ∧
 ((y267 (0 : Int) ((Int.toNat z221) : Int) z222 ((Int.toNat z223) : Int) z224 ((Int.toNat z225) : Int) z226 z227 z228 z229 ((Int.toNat z230) : Int) ((Int.toNat z231) : Int)) ∧
 (∀ z269 : Int,
 (∀ z270 : Int,
 (∀ z271 : (List Bool),
 (∀ z272 : Int,
 (∀ z273 : qT2,
 (∀ z274 : Int,
 (∀ z275 : qT1,
 (∀ z276 : Int,
 (∀ z277 : Int,
 (∀ z278 : Int,
 (∀ z279 : Int,
 (∀ z280 : Int,
 ((y267 z269 z270 z271 z272 z273 z274 z275 z276 z277 z278 z279 z280) →
 ((((decide (z269 < y209)) = true) →
  (Need (((0 : Int) ≤ z269) ∧ (z269 < ((Int.toNat y209) : Int))) ∧
  (Need ((Int.toNat z270) = 0) ∧
  (Need ((0 + (Int.toNat z269)) < (List.length z271)) ∧
  ((((List.getD z271 (0 + (Int.toNat z269)) false) = true) →
   (Need (((-9223372036854775808 : Int) ≤ (z269 + (1 : Int))) ∧ ((z269 + (1 : Int)) ≤ (9223372036854775807 : Int))) ∧
   (Need (((List.length z271) = (List.length z271)) ∧ (((List.length z273) = (List.length z273)) ∧ ((List.length z275) = (List.length z275)))) ∧
   ((y267 (z269 + (1 : Int)) ((Int.toNat z270) : Int) z271 ((Int.toNat z272) : Int) z273 ((Int.toNat z274) : Int) z275 z276 z277 z278 ((Int.toNat z279) : Int) ((Int.toNat z280) : Int)) ∧
   Need ((y268 (z269 + (1 : Int)) ((Int.toNat z270) : Int) z271 ((Int.toNat z272) : Int) z273 ((Int.toNat z274) : Int) z275 z276 z277 z278 ((Int.toNat z279) : Int) ((Int.toNat z280) : Int)) < (y268 z269 z270 z271 z272 z273 z274 z275 z276 z277 z278 z279 z280)))))) ∧
  (((List.getD z271 (0 + (Int.toNat z269)) false) = false) →
  (∃ y285 : qT2,
  (∃ y286 : Nat,
  (∃ y287 : Nat,
  (∃ y288 : Int,
  (∃ y289 : Int,
  (∃ y290 : Int,
  (∃ y291 : Int,
  (∃ y292 : Nat,
  (∃ y293 : qT0,
  (Need (E 16 [(.tv [] .ref (Option.none )), (.tv [] (.int .i64) z269)] [] (.tv [[]] qt12 y285) [((0, 0), ⟨⟨qt9, ((Option.some (0, 1)), ())⟩, []⟩), ((0, 1), ⟨⟨qt3, ((Option.some (0, 2)), ((Option.some ((0, 3), (y286, (0, y287)))), (y288, ())))⟩, []⟩), ((0, 2), ⟨⟨qt1, (y289, (y290, (y291, ())))⟩, []⟩), ((0, 3), ⟨⟨(.arr (Nat.succ y292) (List.length y293) qt0), y293⟩, []⟩)]) ∧
  (∃ y294 : (Int → (Int → ((List Bool) → (Int → (qT2 → (Int → (qT1 → (Int → (Int → (Int → (Int → (Int → Prop)))))))))))),
  (∃ y295 : (Int → (Int → ((List Bool) → (Int → (qT2 → (Int → (qT1 → (Int → (Int → (Int → (Int → (Int → Nat)))))))))))),
  (Need (((List.length z271) = (List.length z271)) ∧ (((List.length z273) = (List.length z273)) ∧ ((List.length z275) = (List.length z275)))) ∧
  ((y294 (0 : Int) ((Int.toNat z270) : Int) z271 ((Int.toNat z272) : Int) z273 ((Int.toNat z274) : Int) z275 z276 z277 z278 ((Int.toNat z279) : Int) ((Int.toNat z280) : Int)) ∧
  (∀ z296 : Int,
  (∀ z297 : Int,
  (∀ z298 : (List Bool),
  (∀ z299 : Int,
  (∀ z300 : qT2,
  (∀ z301 : Int,
  (∀ z302 : qT1,
  (∀ z303 : Int,
  (∀ z304 : Int,
  (∀ z305 : Int,
  (∀ z306 : Int,
  (∀ z307 : Int,
  ((y294 z296 z297 z298 z299 z300 z301 z302 z303 z304 z305 z306 z307) →
  ((((decide (z296 < ((List.length y285) : Int))) = true) →
   (Need (((0 : Int) ≤ z296) ∧ (z296 < ((List.length y285) : Int))) ∧
   ((((decide ((List.getD y285 (Int.toNat z296) (0 : Int)) < (0 : Int))) = true) →
    (Q (.tv [] .bool false) [])) ∧
   (((decide ((List.getD y285 (Int.toNat z296) (0 : Int)) < (0 : Int))) = false) →
   (Need (((0 : Int) ≤ z296) ∧ (z296 < ((List.length y285) : Int))) ∧
   ((((decide (y209 ≤ (List.getD y285 (Int.toNat z296) (0 : Int)))) = true) →
    (Q (.tv [] .bool false) [])) ∧
   (((decide (y209 ≤ (List.getD y285 (Int.toNat z296) (0 : Int)))) = false) →
   (Need (((0 : Int) ≤ z296) ∧ (z296 < ((List.length y285) : Int))) ∧
   (Need (((0 : Int) ≤ (List.getD y285 (Int.toNat z296) (0 : Int))) ∧ ((List.getD y285 (Int.toNat z296) (0 : Int)) < ((Int.toNat y209) : Int))) ∧
   (Need ((Int.toNat z299) = 0) ∧
   (Need ((0 + (Int.toNat (List.getD y285 (Int.toNat z296) (0 : Int)))) < (List.length z300)) ∧
   (Need (((-9223372036854775808 : Int) ≤ ((List.getD z300 (0 + (Int.toNat (List.getD y285 (Int.toNat z296) (0 : Int)))) (0 : Int)) + (1 : Int))) ∧ (((List.getD z300 (0 + (Int.toNat (List.getD y285 (Int.toNat z296) (0 : Int)))) (0 : Int)) + (1 : Int)) ≤ (9223372036854775807 : Int))) ∧
   (Need (((0 : Int) ≤ (List.getD y285 (Int.toNat z296) (0 : Int))) ∧ ((List.getD y285 (Int.toNat z296) (0 : Int)) < ((Int.toNat y209) : Int))) ∧
   (Need ((Int.toNat z299) = 0) ∧
   (Need ((0 + (Int.toNat (List.getD y285 (Int.toNat z296) (0 : Int)))) < (List.length z300)) ∧
   (Need (((-9223372036854775808 : Int) ≤ (z296 + (1 : Int))) ∧ ((z296 + (1 : Int)) ≤ (9223372036854775807 : Int))) ∧
   (Need (((List.length z298) = (List.length z298)) ∧ (((List.length z300) = (List.length (List.set z300 (0 + (Int.toNat (List.getD y285 (Int.toNat z296) (0 : Int)))) ((List.getD z300 (0 + (Int.toNat (List.getD y285 (Int.toNat z296) (0 : Int)))) (0 : Int)) + (1 : Int))))) ∧ ((List.length z302) = (List.length z302)))) ∧
   ((y294 (z296 + (1 : Int)) ((Int.toNat z297) : Int) z298 ((Int.toNat z299) : Int) (List.set z300 (0 + (Int.toNat (List.getD y285 (Int.toNat z296) (0 : Int)))) ((List.getD z300 (0 + (Int.toNat (List.getD y285 (Int.toNat z296) (0 : Int)))) (0 : Int)) + (1 : Int))) ((Int.toNat z301) : Int) z302 z303 z304 z305 ((Int.toNat z306) : Int) ((Int.toNat z307) : Int)) ∧
   Need ((y295 (z296 + (1 : Int)) ((Int.toNat z297) : Int) z298 ((Int.toNat z299) : Int) (List.set z300 (0 + (Int.toNat (List.getD y285 (Int.toNat z296) (0 : Int)))) ((List.getD z300 (0 + (Int.toNat (List.getD y285 (Int.toNat z296) (0 : Int)))) (0 : Int)) + (1 : Int))) ((Int.toNat z301) : Int) z302 z303 z304 z305 ((Int.toNat z306) : Int) ((Int.toNat z307) : Int)) < (y295 z296 z297 z298 z299 z300 z301 z302 z303 z304 z305 z306 z307)))))))))))))))))))) ∧
  (((decide (z296 < ((List.length y285) : Int))) = false) →
  ((((decide (((List.length y285) : Int) = (0 : Int))) = true) →
   (Q (.tv [] .bool false) [])) ∧
  (((decide (((List.length y285) : Int) = (0 : Int))) = false) →
  (Need (((-9223372036854775808 : Int) ≤ (((List.length y285) : Int) - (1 : Int))) ∧ ((((List.length y285) : Int) - (1 : Int)) ≤ (9223372036854775807 : Int))) ∧
  (Need (((0 : Int) ≤ (((List.length y285) : Int) - (1 : Int))) ∧ ((((List.length y285) : Int) - (1 : Int)) < ((List.length y285) : Int))) ∧
  ((((decide ((List.getD y285 (Int.toNat (((List.length y285) : Int) - (1 : Int))) (0 : Int)) ≠ z269)) = true) →
   (Q (.tv [] .bool false) [])) ∧
  (((decide ((List.getD y285 (Int.toNat (((List.length y285) : Int) - (1 : Int))) (0 : Int)) ≠ z269)) = false) →
  (Need (((-9223372036854775808 : Int) ≤ (z269 + (1 : Int))) ∧ ((z269 + (1 : Int)) ≤ (9223372036854775807 : Int))) ∧
  (Need (((List.length z298) = (List.length z298)) ∧ (((List.length z300) = (List.length z300)) ∧ ((List.length z302) = (List.length z302)))) ∧
  ((y267 (z269 + (1 : Int)) ((Int.toNat z297) : Int) z298 ((Int.toNat z299) : Int) z300 ((Int.toNat z301) : Int) z302 z303 z304 z305 ((Int.toNat z306) : Int) ((Int.toNat z307) : Int)) ∧
  Need ((y268 (z269 + (1 : Int)) ((Int.toNat z297) : Int) z298 ((Int.toNat z299) : Int) z300 ((Int.toNat z301) : Int) z302 z303 z304 z305 ((Int.toNat z306) : Int) ((Int.toNat z307) : Int)) < (y268 z269 z270 z271 z272 z273 z274 z275 z276 z277 z278 z279 z280)))))))))))))))))))))))))))))))))))))))))))))) ∧
 (((decide (z269 < y209)) = false) →
 (∃ y320 : (Int → (Int → ((List Bool) → (Int → (qT2 → (Int → (qT1 → (Int → (Int → (Int → (Int → (Int → Prop)))))))))))),
 (∃ y321 : (Int → (Int → ((List Bool) → (Int → (qT2 → (Int → (qT1 → (Int → (Int → (Int → (Int → (Int → Nat)))))))))))),
 (Need (((List.length z271) = (List.length z271)) ∧ (((List.length z273) = (List.length z273)) ∧ ((List.length z275) = (List.length z275)))) ∧
 ((y320 (0 : Int) ((Int.toNat z270) : Int) z271 ((Int.toNat z272) : Int) z273 ((Int.toNat z274) : Int) z275 z276 z277 z278 ((Int.toNat z279) : Int) ((Int.toNat z280) : Int)) ∧
 (∀ z322 : Int,
 (∀ z323 : Int,
 (∀ z324 : (List Bool),
 (∀ z325 : Int,
 (∀ z326 : qT2,
 (∀ z327 : Int,
 (∀ z328 : qT1,
 (∀ z329 : Int,
 (∀ z330 : Int,
 (∀ z331 : Int,
 (∀ z332 : Int,
 (∀ z333 : Int,
 ((y320 z322 z323 z324 z325 z326 z327 z328 z329 z330 z331 z332 z333) →
 ((((decide (z322 < y209)) = true) →
  (Need (((0 : Int) ≤ z322) ∧ (z322 < ((Int.toNat y209) : Int))) ∧
  (Need ((Int.toNat z325) = 0) ∧
  (Need ((0 + (Int.toNat z322)) < (List.length z326)) ∧
  ((((decide ((List.getD z326 (0 + (Int.toNat z322)) (0 : Int)) ≠ (1 : Int))) = true) →
   (Q (.tv [] .bool false) [])) ∧
  (((decide ((List.getD z326 (0 + (Int.toNat z322)) (0 : Int)) ≠ (1 : Int))) = false) →
  (Need (((-9223372036854775808 : Int) ≤ (z322 + (1 : Int))) ∧ ((z322 + (1 : Int)) ≤ (9223372036854775807 : Int))) ∧
  (Need (((List.length z324) = (List.length z324)) ∧ (((List.length z326) = (List.length z326)) ∧ ((List.length z328) = (List.length z328)))) ∧
  ((y320 (z322 + (1 : Int)) ((Int.toNat z323) : Int) z324 ((Int.toNat z325) : Int) z326 ((Int.toNat z327) : Int) z328 z329 z330 z331 ((Int.toNat z332) : Int) ((Int.toNat z333) : Int)) ∧
  Need ((y321 (z322 + (1 : Int)) ((Int.toNat z323) : Int) z324 ((Int.toNat z325) : Int) z326 ((Int.toNat z327) : Int) z328 z329 z330 z331 ((Int.toNat z332) : Int) ((Int.toNat z333) : Int)) < (y321 z322 z323 z324 z325 z326 z327 z328 z329 z330 z331 z332 z333))))))))))) ∧
 (((decide (z322 < y209)) = false) →
 (Q (.tv [] .bool y0) []))))))))))))))))))))))))))))))))))))))))))))))))))))))))))))))))))))))))))))))))))))))))))))))))))) : EvF PP orc 4 [.tv [] qt7 (x0_0, (x0_1, (x0_2, (x0_3, (x0_4, (x0_5, (x0_6, ()))))))), .tv [] (.slice qt8) x1] [] Q := vcF_ok (sg := sg) (Eq.mp (by kernel_rfl) h)
end Go.Am.T
