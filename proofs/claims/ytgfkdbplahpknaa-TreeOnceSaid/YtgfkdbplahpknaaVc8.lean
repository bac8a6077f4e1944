/-
  A part of the proof of a law: see the text that states it.
-/
import Derived.Test.YtgfkdbplahpknaaHead
set_option linter.all false
namespace Go.Am.T
open Go
set_option maxRecDepth 100000
set_option maxHeartbeats 4000000
theorem vc13 (x1 : Int) (x2 : Int) (x3 : List (Int)) (g3 : Nat) (l3 : List (((Int × (Int × ((Int × (Int × (Int × Unit))) × (List (Int) × (Bool × (Bool × Unit)))))) × (Int × Unit)))) (n3 : Nat) (o0_0_2 : Int) (o0_0_0_0 : Int) (o0_0_0_1 : Int) (o0_0_0_2 : Int) (Q : AV → Heap → Prop) (h :
(∃ y0 : (Int → (Int → (Int → (Int → (Int → (Int → (Int → (Int → (qT0 → Prop))))))))),
 (∃ y1 : (Int → (Int → (Int → (Int → (Int → (Int → (Int → (Int → (qT0 → Nat))))))))),
 (Need ((List.length l3) = (List.length l3)) ∧
 ((y0 (0 : Int) (g3 : Int) (n3 : Int) o0_0_2 o0_0_0_0 o0_0_0_1 o0_0_0_2 (g3 : Int) l3) ∧
 (∀ z2 : Int,
 (∀ z3 : Int,
 (∀ z4 : Int,
 (∀ z5 : Int,
 (∀ z6 : Int,
 (∀ z7 : Int,
 (∀ z8 : Int,
 (∀ z9 : Int,
 (∀ z10 : qT0,
 ((y0 z2 z3 z4 z5 z6 z7 z8 z9 z10) →
 ((((decide (z2 < ((List.length x3) : Int))) = true) →
  (Need (((0 : Int) ≤ z2) ∧ (z2 < ((List.length x3) : Int))) ∧
  (∃ y13 : Int,
  (∃ y14 : Int,
  (∃ y15 : Int,
  (∃ y16 : Int,
  (∃ y17 : Int,
  (∃ y18 : qT2,
  (∃ y19 : Bool,
  (∃ y20 : Bool,
  (∃ y21 : Bool,
  (∃ y22 : Nat,
  (∃ y23 : Nat,
  (∃ y24 : Int,
  (∃ y25 : Int,
  (∃ y26 : Int,
  (∃ y27 : Int,
  (∃ y28 : Nat,
  (∃ y29 : qT0,
  (Need (E 45 [(.op (0, 0) []), (.tv [] (.int .i64) (List.getD x3 (Int.toNat z2) (0 : Int)))] [((0, 0), ⟨⟨qt3, ((Option.some (0, 1)), ((Option.some ((0, 2), ((Int.toNat z3), (0, (Int.toNat z4))))), (z5, ())))⟩, []⟩), ((0, 1), ⟨⟨qt1, (z6, (z7, (z8, ())))⟩, []⟩), ((0, 2), ⟨⟨(.arr (Nat.succ (Int.toNat z9)) (List.length z10) qt0), z10⟩, []⟩)] (.tup [(.tv [] qt10 (y13, (y14, ((y15, (y16, (y17, ()))), (y18, (y19, (y20, ()))))))), (.tv [] .bool y21)]) [((0, 0), ⟨⟨qt3, ((Option.some (0, 1)), ((Option.some ((0, 2), (y22, (0, y23)))), (y24, ())))⟩, []⟩), ((0, 1), ⟨⟨qt1, (y25, (y26, (y27, ())))⟩, []⟩), ((0, 2), ⟨⟨(.arr (Nat.succ y28) (List.length y29) qt0), y29⟩, []⟩)]) ∧
  ((((!y21) = true) →
   (Q (.tup [(.tv [] (.int .i64) (0 : Int)), (.tv [] (.int .i64) (2 : Int))]) [((0, 0), ⟨⟨qt9, ((Option.some (0, 1)), ())⟩, []⟩), ((0, 1), ⟨⟨qt3, ((Option.some (0, 2)), ((Option.some ((0, 3), (y22, (0, y23)))), (y24, ())))⟩, []⟩), ((0, 2), ⟨⟨qt1, (y25, (y26, (y27, ())))⟩, []⟩), ((0, 3), ⟨⟨(.arr (Nat.succ y28) (List.length y29) qt0), y29⟩, []⟩)])) ∧
  (((!y21) = false) →
  (Need (((-9223372036854775808 : Int) ≤ (z2 + (1 : Int))) ∧ ((z2 + (1 : Int)) ≤ (9223372036854775807 : Int))) ∧
  (Need ((List.length y29) = (List.length y29)) ∧
  ((y0 (z2 + (1 : Int)) (y22 : Int) (y23 : Int) y24 y25 y26 y27 (y28 : Int) y29) ∧
  Need ((y1 (z2 + (1 : Int)) (y22 : Int) (y23 : Int) y24 y25 y26 y27 (y28 : Int) y29) < (y1 z2 z3 z4 z5 z6 z7 z8 z9 z10))))))))))))))))))))))))))) ∧
 (((decide (z2 < ((List.length x3) : Int))) = false) →
 (∃ y33 : (Int → (Int → (Int → (Int → (Int → (Int → (Int → (Int → (qT0 → Prop))))))))),
 (∃ y34 : (Int → (Int → (Int → (Int → (Int → (Int → (Int → (Int → (qT0 → Nat))))))))),
 (Need ((List.length z10) = (List.length z10)) ∧
 ((y33 (0 : Int) ((Int.toNat z3) : Int) ((Int.toNat z4) : Int) z5 z6 z7 z8 ((Int.toNat z9) : Int) z10) ∧
 (∀ z35 : Int,
 (∀ z36 : Int,
 (∀ z37 : Int,
 (∀ z38 : Int,
 (∀ z39 : Int,
 (∀ z40 : Int,
 (∀ z41 : Int,
 (∀ z42 : Int,
 (∀ z43 : qT0,
 ((y33 z35 z36 z37 z38 z39 z40 z41 z42 z43) →
 ((((decide (z35 < ((List.length x3) : Int))) = true) →
  (Need (((0 : Int) ≤ z35) ∧ (z35 < ((List.length x3) : Int))) ∧
  (∃ y46 : Int,
  (∃ y47 : Int,
  (∃ y48 : Int,
  (∃ y49 : Int,
  (∃ y50 : Int,
  (∃ y51 : qT2,
  (∃ y52 : Bool,
  (∃ y53 : Bool,
  (∃ y54 : Bool,
  (∃ y55 : Nat,
  (∃ y56 : Nat,
  (∃ y57 : Int,
  (∃ y58 : Int,
  (∃ y59 : Int,
  (∃ y60 : Int,
  (∃ y61 : Nat,
  (∃ y62 : qT0,
  (Need (E 45 [(.op (0, 0) []), (.tv [] (.int .i64) (List.getD x3 (Int.toNat z35) (0 : Int)))] [((0, 0), ⟨⟨qt3, ((Option.some (0, 1)), ((Option.some ((0, 2), ((Int.toNat z36), (0, (Int.toNat z37))))), (z38, ())))⟩, []⟩), ((0, 1), ⟨⟨qt1, (z39, (z40, (z41, ())))⟩, []⟩), ((0, 2), ⟨⟨(.arr (Nat.succ (Int.toNat z42)) (List.length z43) qt0), z43⟩, []⟩)] (.tup [(.tv [] qt10 (y46, (y47, ((y48, (y49, (y50, ()))), (y51, (y52, (y53, ()))))))), (.tv [] .bool y54)]) [((0, 0), ⟨⟨qt3, ((Option.some (0, 1)), ((Option.some ((0, 2), (y55, (0, y56)))), (y57, ())))⟩, []⟩), ((0, 1), ⟨⟨qt1, (y58, (y59, (y60, ())))⟩, []⟩), ((0, 2), ⟨⟨(.arr (Nat.succ y61) (List.length y62) qt0), y62⟩, []⟩)]) ∧
  (((y53 = true) →
   (Q (.tup [(.tv [] (.int .i64) (0 : Int)), (.tv [] (.int .i64) (15 : Int))]) [((0, 0), ⟨⟨qt9, ((Option.some (0, 1)), ())⟩, []⟩), ((0, 1), ⟨⟨qt3, ((Option.some (0, 2)), ((Option.some ((0, 3), (y55, (0, y56)))), (y57, ())))⟩, []⟩), ((0, 2), ⟨⟨qt1, (y58, (y59, (y60, ())))⟩, []⟩), ((0, 3), ⟨⟨(.arr (Nat.succ y61) (List.length y62) qt0), y62⟩, []⟩)])) ∧
  ((y53 = false) →
  (Need (((0 : Int) ≤ (0 : Int)) ∧ (((0 : Int) ≤ z35) ∧ (z35 ≤ ((List.length x3) : Int)))) ∧
  (∃ y65 : Bool,
  (Need (E 46 [(.tv [] qt12 (cut x3 0 (Int.toNat z35))), (.tv [] (.int .i64) (List.getD x3 (Int.toNat z35) (0 : Int)))] [] (.tv [] .bool y65) []) ∧
  (((y65 = true) →
   (Q (.tup [(.tv [] (.int .i64) (0 : Int)), (.tv [] (.int .i64) (15 : Int))]) [((0, 0), ⟨⟨qt9, ((Option.some (0, 1)), ())⟩, []⟩), ((0, 1), ⟨⟨qt3, ((Option.some (0, 2)), ((Option.some ((0, 3), (y55, (0, y56)))), (y57, ())))⟩, []⟩), ((0, 2), ⟨⟨qt1, (y58, (y59, (y60, ())))⟩, []⟩), ((0, 3), ⟨⟨(.arr (Nat.succ y61) (List.length y62) qt0), y62⟩, []⟩)])) ∧
  ((y65 = false) →
  (Need (((-9223372036854775808 : Int) ≤ (z35 + (1 : Int))) ∧ ((z35 + (1 : Int)) ≤ (9223372036854775807 : Int))) ∧
  (Need ((List.length y62) = (List.length y62)) ∧
  ((y33 (z35 + (1 : Int)) (y55 : Int) (y56 : Int) y57 y58 y59 y60 (y61 : Int) y62) ∧
  Need ((y34 (z35 + (1 : Int)) (y55 : Int) (y56 : Int) y57 y58 y59 y60 (y61 : Int) y62) < (y34 z35 z36 z37 z38 z39 z40 z41 z42 z43)))))))))))))))))))))))))))))))) ∧
 (((decide (z35 < ((List.length x3) : Int))) = false) →
 (∃ y69 : qT2,
 (Need (E 47 [(.tv [] qt12 x3)] [] (.tv [[]] qt12 y69) []) ∧
 (Need (((-9223372036854775808 : Int) ≤ ((1 : Int) + ((List.length x3) : Int))) ∧ (((1 : Int) + ((List.length x3) : Int)) ≤ (9223372036854775807 : Int))) ∧
 (∃ y70 : Int,
 (∃ y71 : Int,
 (∃ y72 : Nat,
 (∃ y73 : Nat,
 (∃ y74 : Int,
 (∃ y75 : Int,
 (∃ y76 : Int,
 (∃ y77 : Int,
 (∃ y78 : Nat,
 (∃ y79 : qT0,
 (Need (E 44 [(.op (0, 0) []), (.tv [] qt10 (x1, (x2, (((0 : Int), ((0 : Int), ((0 : Int), ()))), (y69, (false, (false, ()))))))), (.tv [] (.int .i64) ((1 : Int) + ((List.length x3) : Int)))] [((0, 0), ⟨⟨qt3, ((Option.some (0, 1)), ((Option.some ((0, 2), ((Int.toNat z36), (0, (Int.toNat z37))))), (z38, ())))⟩, []⟩), ((0, 1), ⟨⟨qt1, (z39, (z40, (z41, ())))⟩, []⟩), ((0, 2), ⟨⟨(.arr (Nat.succ (Int.toNat z42)) (List.length z43) qt0), z43⟩, []⟩)] (.tup [(.tv [] (.int .i64) y70), (.tv [] (.int .i64) y71)]) [((0, 0), ⟨⟨qt3, ((Option.some (0, 1)), ((Option.some ((0, 2), (y72, (0, y73)))), (y74, ())))⟩, []⟩), ((0, 1), ⟨⟨qt1, (y75, (y76, (y77, ())))⟩, []⟩), ((0, 2), ⟨⟨(.arr (Nat.succ y78) (List.length y79) qt0), y79⟩, []⟩)]) ∧
 ((((decide (y71 ≠ (0 : Int))) = true) →
  (Q (.tup [(.tv [] (.int .i64) (0 : Int)), (.tv [] (.int .i64) y71)]) [((0, 0), ⟨⟨qt9, ((Option.some (0, 1)), ())⟩, []⟩), ((0, 1), ⟨⟨qt3, ((Option.some (0, 2)), ((Option.some ((0, 3), (y72, (0, y73)))), (y74, ())))⟩, []⟩), ((0, 2), ⟨⟨qt1, (y75, (y76, (y77, ())))⟩, []⟩), ((0, 3), ⟨⟨(.arr (Nat.succ y78) (List.length y79) qt0), y79⟩, []⟩)])) ∧
 (((decide (y71 ≠ (0 : Int))) = false) →
 (∃ y82 : (Int → (Int → (Int → (Int → (Int → (Int → (Int → (Int → (qT0 → Prop))))))))),
 (∃ y83 : (Int → (Int → (Int → (Int → (Int → (Int → (Int → (Int → (qT0 → Nat))))))))),
 (Need ((List.length y79) = (List.length y79)) ∧
 ((y82 (0 : Int) (y72 : Int) (y73 : Int) y74 y75 y76 y77 (y78 : Int) y79) ∧
 (∀ z84 : Int,
 (∀ z85 : Int,
 (∀ z86 : Int,
 (∀ z87 : Int,
 (∀ z88 : Int,
 (∀ z89 : Int,
 (∀ z90 : Int,
 (∀ z91 : Int,
 (∀ z92 : qT0,
 ((y82 z84 z85 z86 z87 z88 z89 z90 z91 z92) →
 ((((decide (z84 < ((List.length x3) : Int))) = true) →
  (Need (((0 : Int) ≤ z84) ∧ (z84 < ((List.length x3) : Int))) ∧
  (∃ y95 : Int,
  (∃ y96 : Int,
  (∃ y97 : Int,
  (∃ y98 : Int,
  (∃ y99 : Int,
  (∃ y100 : qT2,
  (∃ y101 : Bool,
  (∃ y102 : Bool,
  (∃ y103 : Bool,
  (∃ y104 : Nat,
  (∃ y105 : Nat,
  (∃ y106 : Int,
  (∃ y107 : Int,
  (∃ y108 : Int,
  (∃ y109 : Int,
  (∃ y110 : Nat,
  (∃ y111 : qT0,
  (Need (E 45 [(.op (0, 0) []), (.tv [] (.int .i64) (List.getD x3 (Int.toNat z84) (0 : Int)))] [((0, 0), ⟨⟨qt3, ((Option.some (0, 1)), ((Option.some ((0, 2), ((Int.toNat z85), (0, (Int.toNat z86))))), (z87, ())))⟩, []⟩), ((0, 1), ⟨⟨qt1, (z88, (z89, (z90, ())))⟩, []⟩), ((0, 2), ⟨⟨(.arr (Nat.succ (Int.toNat z91)) (List.length z92) qt0), z92⟩, []⟩)] (.tup [(.tv [] qt10 (y95, (y96, ((y97, (y98, (y99, ()))), (y100, (y101, (y102, ()))))))), (.tv [] .bool y103)]) [((0, 0), ⟨⟨qt3, ((Option.some (0, 1)), ((Option.some ((0, 2), (y104, (0, y105)))), (y106, ())))⟩, []⟩), ((0, 1), ⟨⟨qt1, (y107, (y108, (y109, ())))⟩, []⟩), ((0, 2), ⟨⟨(.arr (Nat.succ y110) (List.length y111) qt0), y111⟩, []⟩)]) ∧
  (∃ y112 : Bool,
  (∃ y113 : Nat,
  (∃ y114 : Nat,
  (∃ y115 : Int,
  (∃ y116 : Int,
  (∃ y117 : Int,
  (∃ y118 : Int,
  (∃ y119 : Nat,
  (∃ y120 : qT0,
  (Need (E 48 [(.op (0, 0) []), (.tv [] (.int .i64) (List.getD x3 (Int.toNat z84) (0 : Int))), (.tv [] qt10 (y95, (y96, ((y97, (y98, (y99, ()))), (y100, (y101, (true, ())))))))] [((0, 0), ⟨⟨qt3, ((Option.some (0, 1)), ((Option.some ((0, 2), (y104, (0, y105)))), (y106, ())))⟩, []⟩), ((0, 1), ⟨⟨qt1, (y107, (y108, (y109, ())))⟩, []⟩), ((0, 2), ⟨⟨(.arr (Nat.succ y110) (List.length y111) qt0), y111⟩, []⟩)] (.tv [] .bool y112) [((0, 0), ⟨⟨qt3, ((Option.some (0, 1)), ((Option.some ((0, 2), (y113, (0, y114)))), (y115, ())))⟩, []⟩), ((0, 1), ⟨⟨qt1, (y116, (y117, (y118, ())))⟩, []⟩), ((0, 2), ⟨⟨(.arr (Nat.succ y119) (List.length y120) qt0), y120⟩, []⟩)]) ∧
  (Need (((-9223372036854775808 : Int) ≤ (z84 + (1 : Int))) ∧ ((z84 + (1 : Int)) ≤ (9223372036854775807 : Int))) ∧
  (Need ((List.length y120) = (List.length y120)) ∧
  ((y82 (z84 + (1 : Int)) (y113 : Int) (y114 : Int) y115 y116 y117 y118 (y119 : Int) y120) ∧
  Need ((y83 (z84 + (1 : Int)) (y113 : Int) (y114 : Int) y115 y116 y117 y118 (y119 : Int) y120) < (y83 z84 z85 z86 z87 z88 z89 z90 z91 z92))))))))))))))))))))))))))))))))))) ∧
 (((decide (z84 < ((List.length x3) : Int))) = false) →
 (Q (.tup [(.tv [] (.int .i64) y70), (.tv [] (.int .i64) (0 : Int))]) [((0, 0), ⟨⟨qt9, ((Option.some (0, 1)), ())⟩, []⟩), ((0, 1), ⟨⟨qt3, ((Option.some (0, 2)), ((Option.some ((0, 3), ((Int.toNat z85), (0, (Int.toNat z86))))), (z87, ())))⟩, []⟩), ((0, 2), ⟨⟨qt1, (z88, (z89, (z90, ())))⟩, []⟩), ((0, 3), ⟨⟨(.arr (Nat.succ (Int.toNat z91)) (List.length z92) qt0), z92⟩, []⟩)])))))))))))))))))))))))))))))))))))))))))))))))))))))))))))))))))) : EvF PP orc 13 [.op (0, 0) [], .tv [] (.int .i64) x1, .tv [] (.int .i64) x2, .tv [] qt12 x3] [((0, 0), ⟨⟨qt9, ((some (0, 1)), ())⟩, []⟩), ((0, 1), ⟨⟨qt3, ((some (0, 2)), ((some ((0, 3), g3, 0, n3)), (o0_0_2, ())))⟩, []⟩), ((0, 2), ⟨⟨qt1, (o0_0_0_0, (o0_0_0_1, (o0_0_0_2, ())))⟩, []⟩), ((0, 3), ⟨⟨.arr (Nat.succ g3) l3.length qt0, l3⟩, []⟩)] Q := vcF_ok (sg := sg) (Eq.mp (by kernel_rfl) h)
end Go.Am.T
