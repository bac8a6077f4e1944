/-
  A part of the proof of a law: see the text that states it.
-/
import Derived.Test.YtgfkdbplahpknaaHead
set_option linter.all false
namespace Go.Am.T
open Go
set_option maxRecDepth 100000
set_option maxHeartbeats 4000000
theorem vc58 (x1 : Int) (g2 : Nat) (l2 : List ((Bool × (Int × (Int × ((Int × (Int × (Int × Unit))) × (List (Int) × (Bool × Unit)))))))) (o0_0_0 : Int) (o0_0_1 : Int) (o0_0_2 : Int) (Q : AV → Heap → Prop) (h :
(Need (((-9223372036854775808 : Int) ≤ (((List.length l2) : Int) - (1 : Int))) ∧ ((((List.length l2) : Int) - (1 : Int)) ≤ (9223372036854775807 : Int))) ∧
 (∃ y0 : (qT2 → (Int → (Int → (Int → (Int → (Int → (Int → (Int → (qT1 → Prop))))))))),
 (∃ y1 : (qT2 → (Int → (Int → (Int → (Int → (Int → (Int → (Int → (qT1 → Nat))))))))),
 (Need ((List.length l2) = (List.length l2)) ∧
 ((y0 [] (((List.length l2) : Int) - (1 : Int)) (g2 : Int) ((List.length l2) : Int) o0_0_0 o0_0_1 o0_0_2 (g2 : Int) l2) ∧
 (∀ z2 : qT2,
 (∀ z3 : Int,
 (∀ z4 : Int,
 (∀ z5 : Int,
 (∀ z6 : Int,
 (∀ z7 : Int,
 (∀ z8 : Int,
 (∀ z9 : Int,
 (∀ z10 : qT1,
 ((y0 z2 z3 z4 z5 z6 z7 z8 z9 z10) →
 ((((decide ((0 : Int) ≤ z3)) = true) →
  ((((decide (((List.length z2) : Int) < x1)) = true) →
   (Need (((0 : Int) ≤ z3) ∧ (z3 < ((Int.toNat z5) : Int))) ∧
   (Need ((Int.toNat z9) = (Int.toNat z4)) ∧
   (Need ((0 + (Int.toNat z3)) < (List.length z10)) ∧
   (Need ((Int.toNat z9) = (Int.toNat z4)) ∧
   (Need ((0 + (Int.toNat z3)) < (List.length z10)) ∧
   ((((!(List.getD z10 (0 + (Int.toNat z3)) (false, ((0 : Int), ((0 : Int), (((0 : Int), ((0 : Int), ((0 : Int), ()))), ([], (false, ()))))))).2.2.2.2.2.1) = true) →
    (Need (((List.length [z3]) + (List.length z2)) ≤ bigN) ∧
    (Need (((-9223372036854775808 : Int) ≤ (z3 - (1 : Int))) ∧ ((z3 - (1 : Int)) ≤ (9223372036854775807 : Int))) ∧
    (Need ((List.length z10) = (List.length z10)) ∧
    ((y0 ([z3] ++ z2) (z3 - (1 : Int)) ((Int.toNat z4) : Int) ((Int.toNat z5) : Int) z6 z7 z8 ((Int.toNat z9) : Int) z10) ∧
    Need ((y1 ([z3] ++ z2) (z3 - (1 : Int)) ((Int.toNat z4) : Int) ((Int.toNat z5) : Int) z6 z7 z8 ((Int.toNat z9) : Int) z10) < (y1 z2 z3 z4 z5 z6 z7 z8 z9 z10))))))) ∧
   (((!(List.getD z10 (0 + (Int.toNat z3)) (false, ((0 : Int), ((0 : Int), (((0 : Int), ((0 : Int), ((0 : Int), ()))), ([], (false, ()))))))).2.2.2.2.2.1) = false) →
   (Need (((-9223372036854775808 : Int) ≤ (z3 - (1 : Int))) ∧ ((z3 - (1 : Int)) ≤ (9223372036854775807 : Int))) ∧
   (Need ((List.length z10) = (List.length z10)) ∧
   ((y0 z2 (z3 - (1 : Int)) ((Int.toNat z4) : Int) ((Int.toNat z5) : Int) z6 z7 z8 ((Int.toNat z9) : Int) z10) ∧
   Need ((y1 z2 (z3 - (1 : Int)) ((Int.toNat z4) : Int) ((Int.toNat z5) : Int) z6 z7 z8 ((Int.toNat z9) : Int) z10) < (y1 z2 z3 z4 z5 z6 z7 z8 z9 z10))))))))))))) ∧
  (((decide (((List.length z2) : Int) < x1)) = false) →
  (Q (.tv [[]] qt12 z2) [((0, 0), ⟨⟨qt6, ((Option.some (0, 1)), ((Option.some ((0, 2), ((Int.toNat z4), (0, (Int.toNat z5))))), ()))⟩, []⟩), ((0, 1), ⟨⟨qt1, (z6, (z7, (z8, ())))⟩, []⟩), ((0, 2), ⟨⟨(.arr (Nat.succ (Int.toNat z9)) (List.length z10) qt2), z10⟩, []⟩)])))) ∧
 (((decide ((0 : Int) ≤ z3)) = false) →
 (Q (.tv [[]] qt12 z2) [((0, 0), ⟨⟨qt6, ((Option.some (0, 1)), ((Option.some ((0, 2), ((Int.toNat z4), (0, (Int.toNat z5))))), ()))⟩, []⟩), ((0, 1), ⟨⟨qt1, (z6, (z7, (z8, ())))⟩, []⟩), ((0, 2), ⟨⟨(.arr (Nat.succ (Int.toNat z9)) (List.length z10) qt2), z10⟩, []⟩)]))))))))))))))))))) : EvF PP orc 58 [.op (0, 0) [], .tv [] (.int .i64) x1] [((0, 0), ⟨⟨qt6, ((some (0, 1)), ((some ((0, 2), g2, 0, l2.length)), ()))⟩, []⟩), ((0, 1), ⟨⟨qt1, (o0_0_0, (o0_0_1, (o0_0_2, ())))⟩, []⟩), ((0, 2), ⟨⟨.arr (Nat.succ g2) l2.length qt2, l2⟩, []⟩)] Q := vcF_ok (sg := sg) (Eq.mp (by kernel_rfl) h)
theorem vc28 (x0_0 : List qT2) (x0_1 : List qT2) (x0_2 : List ((Int × (List (Int) × (Int × Unit))))) (x0_3 : List (Int)) (x0_4 : List (Int)) (x0_5 : List qT2) (x2_0 : Int) (x2_1 : Int) (x2_2 : Int) (x2_3_0 : Int) (x2_3_1 : Int) (x2_3_2 : Int) (x2_4 : List (Int)) (g2 : Nat) (l2 : List ((Bool × (Int × (Int × ((Int × (Int × (Int × Unit))) × (List (Int) × (Bool × Unit)))))))) (o0_0_0 : Int) (o0_0_1 : Int) (o0_0_2 : Int) (Q : AV → Heap → Prop) (h :
((((decide (x2_0 ≠ (4 : Int))) = true) →
  (Q (.tv [] qt8 (x2_0, (x2_1, (x2_2, ((x2_3_0, (x2_3_1, (x2_3_2, ()))), (x2_4, ())))))) [((0, 0), ⟨⟨qt6, ((Option.some (0, 1)), ((Option.some ((0, 2), (g2, (0, (List.length l2))))), ()))⟩, []⟩), ((0, 1), ⟨⟨qt1, (o0_0_0, (o0_0_1, (o0_0_2, ())))⟩, []⟩), ((0, 2), ⟨⟨(.arr (Nat.succ g2) (List.length l2) qt2), l2⟩, []⟩)])) ∧
 (((decide (x2_0 ≠ (4 : Int))) = false) →
 (Need (((-9223372036854775808 : Int) ≤ (((List.length x0_2) : Int) - (1 : Int))) ∧ ((((List.length x0_2) : Int) - (1 : Int)) ≤ (9223372036854775807 : Int))) ∧
 (Need ((((List.length x0_2) : Int) - (1 : Int)) ≠ (0 : Int)) ∧
 (Need (¬ ((IntKind.i64 = IntKind.u8) ∧ (¬ (((0 : Int) ≤ x2_1) ∧ ((x2_1 < (256 : Int)) ∧ ((0 : Int) < (((List.length x0_2) : Int) - (1 : Int)))))))) ∧
 (Need (((-9223372036854775808 : Int) ≤ ((Int.tmod x2_1 (((List.length x0_2) : Int) - (1 : Int))) + (((List.length x0_2) : Int) - (1 : Int)))) ∧ (((Int.tmod x2_1 (((List.length x0_2) : Int) - (1 : Int))) + (((List.length x0_2) : Int) - (1 : Int))) ≤ (9223372036854775807 : Int))) ∧
 (Need ((((List.length x0_2) : Int) - (1 : Int)) ≠ (0 : Int)) ∧
 (Need (¬ ((IntKind.i64 = IntKind.u8) ∧ (¬ (((0 : Int) ≤ ((Int.tmod x2_1 (((List.length x0_2) : Int) - (1 : Int))) + (((List.length x0_2) : Int) - (1 : Int)))) ∧ ((((Int.tmod x2_1 (((List.length x0_2) : Int) - (1 : Int))) + (((List.length x0_2) : Int) - (1 : Int))) < (256 : Int)) ∧ ((0 : Int) < (((List.length x0_2) : Int) - (1 : Int)))))))) ∧
 (Need (((-9223372036854775808 : Int) ≤ ((1 : Int) + (Int.tmod ((Int.tmod x2_1 (((List.length x0_2) : Int) - (1 : Int))) + (((List.length x0_2) : Int) - (1 : Int))) (((List.length x0_2) : Int) - (1 : Int))))) ∧ (((1 : Int) + (Int.tmod ((Int.tmod x2_1 (((List.length x0_2) : Int) - (1 : Int))) + (((List.length x0_2) : Int) - (1 : Int))) (((List.length x0_2) : Int) - (1 : Int)))) ≤ (9223372036854775807 : Int))) ∧
 (Need (((0 : Int) ≤ ((1 : Int) + (Int.tmod ((Int.tmod x2_1 (((List.length x0_2) : Int) - (1 : Int))) + (((List.length x0_2) : Int) - (1 : Int))) (((List.length x0_2) : Int) - (1 : Int))))) ∧ (((1 : Int) + (Int.tmod ((Int.tmod x2_1 (((List.length x0_2) : Int) - (1 : Int))) + (((List.length x0_2) : Int) - (1 : Int))) (((List.length x0_2) : Int) - (1 : Int)))) < ((List.length x0_2) : Int))) ∧
 (Need (((0 : Int) ≤ ((1 : Int) + (Int.tmod ((Int.tmod x2_1 (((List.length x0_2) : Int) - (1 : Int))) + (((List.length x0_2) : Int) - (1 : Int))) (((List.length x0_2) : Int) - (1 : Int))))) ∧ (((1 : Int) + (Int.tmod ((Int.tmod x2_1 (((List.length x0_2) : Int) - (1 : Int))) + (((List.length x0_2) : Int) - (1 : Int))) (((List.length x0_2) : Int) - (1 : Int)))) < ((List.length x0_2) : Int))) ∧
 (∃ y2 : qT2,
 (∃ y3 : Nat,
 (∃ y4 : Nat,
 (∃ y5 : Int,
 (∃ y6 : Int,
 (∃ y7 : Int,
 (∃ y8 : Nat,
 (∃ y9 : qT1,
 (Need (E 58 [(.op (0, 0) []), (.tv [] (.int .i64) ((List.length (List.getD x0_2 (Int.toNat ((1 : Int) + (Int.tmod ((Int.tmod x2_1 (((List.length x0_2) : Int) - (1 : Int))) + (((List.length x0_2) : Int) - (1 : Int))) (((List.length x0_2) : Int) - (1 : Int))))) ((0 : Int), ([], ((0 : Int), ())))).2.1) : Int))] [((0, 0), ⟨⟨qt6, ((Option.some (0, 1)), ((Option.some ((0, 2), (g2, (0, (List.length l2))))), ()))⟩, []⟩), ((0, 1), ⟨⟨qt1, (o0_0_0, (o0_0_1, (o0_0_2, ())))⟩, []⟩), ((0, 2), ⟨⟨(.arr (Nat.succ g2) (List.length l2) qt2), l2⟩, []⟩)] (.tv [[]] qt12 y2) [((0, 0), ⟨⟨qt6, ((Option.some (0, 1)), ((Option.some ((0, 2), (y3, (0, y4)))), ()))⟩, []⟩), ((0, 1), ⟨⟨qt1, (y5, (y6, (y7, ())))⟩, []⟩), ((0, 2), ⟨⟨(.arr (Nat.succ y8) (List.length y9) qt2), y9⟩, []⟩)]) ∧
 (Q (.tv [] qt8 ((2 : Int), (((1 : Int) + (Int.tmod ((Int.tmod x2_1 (((List.length x0_2) : Int) - (1 : Int))) + (((List.length x0_2) : Int) - (1 : Int))) (((List.length x0_2) : Int) - (1 : Int)))), ((List.getD x0_2 (Int.toNat ((1 : Int) + (Int.tmod ((Int.tmod x2_1 (((List.length x0_2) : Int) - (1 : Int))) + (((List.length x0_2) : Int) - (1 : Int))) (((List.length x0_2) : Int) - (1 : Int))))) ((0 : Int), ([], ((0 : Int), ())))).1, (((0 : Int), ((0 : Int), ((0 : Int), ()))), (y2, ())))))) [((0, 0), ⟨⟨qt6, ((Option.some (0, 1)), ((Option.some ((0, 2), (y3, (0, y4)))), ()))⟩, []⟩), ((0, 1), ⟨⟨qt1, (y5, (y6, (y7, ())))⟩, []⟩), ((0, 2), ⟨⟨(.arr (Nat.succ y8) (List.length y9) qt2), y9⟩, []⟩)])))))))))))))))))))))) : EvF PP orc 28 [.tv [] qt5 (x0_0, (x0_1, (x0_2, (x0_3, (x0_4, (x0_5, ())))))), .op (0, 0) [], .tv [] qt8 (x2_0, (x2_1, (x2_2, ((x2_3_0, (x2_3_1, (x2_3_2, ()))), (x2_4, ())))))] [((0, 0), ⟨⟨qt6, ((some (0, 1)), ((some ((0, 2), g2, 0, l2.length)), ()))⟩, []⟩), ((0, 1), ⟨⟨qt1, (o0_0_0, (o0_0_1, (o0_0_2, ())))⟩, []⟩), ((0, 2), ⟨⟨.arr (Nat.succ g2) l2.length qt2, l2⟩, []⟩)] Q := vcF_ok (sg := sg) (Eq.mp (by kernel_rfl) h)
theorem vc27 (x2_0 : Int) (x2_1 : Int) (x2_2 : Int) (x2_3_0 : Int) (x2_3_1 : Int) (x2_3_2 : Int) (x2_4 : List (Int)) (g4 : Nat) (l4 : List ((Bool × (Int × (Int × ((Int × (Int × (Int × Unit))) × (List (Int) × (Bool × Unit)))))))) (g6 : Nat) (l6 : List (((Int × (Int × ((Int × (Int × (Int × Unit))) × (List (Int) × (Bool × (Bool × Unit)))))) × (Int × Unit)))) (n6 : Nat) (o0_0_2 : Int) (o1_0_0 : Int) (o1_0_1 : Int) (o1_0_2 : Int) (o0_0_0_0 : Int) (o0_0_0_1 : Int) (o0_0_0_2 : Int) (Q : AV → Heap → Prop) (h :
((((decide (x2_0 = (1 : Int))) = true) →
  (∃ y1 : Int,
  (∃ y2 : Int,
  (∃ y3 : Nat,
  (∃ y4 : Nat,
  (∃ y5 : Int,
  (∃ y6 : Int,
  (∃ y7 : Int,
  (∃ y8 : Int,
  (∃ y9 : Nat,
  (∃ y10 : qT0,
  (Need (E 12 [(.op (0, 0) []), (.tv [] qt1 (x2_3_0, (x2_3_1, (x2_3_2, ()))))] [((0, 0), ⟨⟨qt9, ((Option.some (0, 1)), ())⟩, []⟩), ((0, 1), ⟨⟨qt3, ((Option.some (0, 2)), ((Option.some ((0, 3), (g6, (0, n6)))), (o0_0_2, ())))⟩, []⟩), ((0, 2), ⟨⟨qt1, (o0_0_0_0, (o0_0_0_1, (o0_0_0_2, ())))⟩, []⟩), ((0, 3), ⟨⟨(.arr (Nat.succ g6) (List.length l6) qt0), l6⟩, []⟩)] (.tup [(.tv [] (.int .i64) y1), (.tv [] (.int .i64) y2)]) [((0, 0), ⟨⟨qt9, ((Option.some (0, 1)), ())⟩, []⟩), ((0, 1), ⟨⟨qt3, ((Option.some (0, 2)), ((Option.some ((0, 3), (y3, (0, y4)))), (y5, ())))⟩, []⟩), ((0, 2), ⟨⟨qt1, (y6, (y7, (y8, ())))⟩, []⟩), ((0, 3), ⟨⟨(.arr (Nat.succ y9) (List.length y10) qt0), y10⟩, []⟩)]) ∧
  (∃ y11 : Int,
  (∃ y12 : Int,
  (∃ y13 : Nat,
  (∃ y14 : Nat,
  (∃ y15 : Int,
  (∃ y16 : Int,
  (∃ y17 : Int,
  (∃ y18 : Nat,
  (∃ y19 : qT1,
  (Need (E 55 [(.op (0, 0) []), (.tv [] qt1 (x2_3_0, (x2_3_1, (x2_3_2, ()))))] [((0, 0), ⟨⟨qt6, ((Option.some (0, 1)), ((Option.some ((0, 2), (g4, (0, (List.length l4))))), ()))⟩, []⟩), ((0, 1), ⟨⟨qt1, (o1_0_0, (o1_0_1, (o1_0_2, ())))⟩, []⟩), ((0, 2), ⟨⟨(.arr (Nat.succ g4) (List.length l4) qt2), l4⟩, []⟩)] (.tup [(.tv [] (.int .i64) y11), (.tv [] (.int .i64) y12)]) [((0, 0), ⟨⟨qt6, ((Option.some (0, 1)), ((Option.some ((0, 2), (y13, (0, y14)))), ()))⟩, []⟩), ((0, 1), ⟨⟨qt1, (y15, (y16, (y17, ())))⟩, []⟩), ((0, 2), ⟨⟨(.arr (Nat.succ y18) (List.length y19) qt2), y19⟩, []⟩)]) ∧
  ((((decide (y1 = y11)) = true) →
   (Q (.tv [] .bool (decide (y2 = y12))) [((0, 0), ⟨⟨qt9, ((Option.some (0, 2)), ())⟩, []⟩), ((0, 1), ⟨⟨qt6, ((Option.some (0, 3)), ((Option.some ((0, 4), (y13, (0, y14)))), ()))⟩, []⟩), ((0, 2), ⟨⟨qt3, ((Option.some (0, 5)), ((Option.some ((0, 6), (y3, (0, y4)))), (y5, ())))⟩, []⟩), ((0, 3), ⟨⟨qt1, (y15, (y16, (y17, ())))⟩, []⟩), ((0, 4), ⟨⟨(.arr (Nat.succ y18) (List.length y19) qt2), y19⟩, []⟩), ((0, 5), ⟨⟨qt1, (y6, (y7, (y8, ())))⟩, []⟩), ((0, 6), ⟨⟨(.arr (Nat.succ y9) (List.length y10) qt0), y10⟩, []⟩)])) ∧
  (((decide (y1 = y11)) = false) →
  (Q (.tv [] .bool false) [((0, 0), ⟨⟨qt9, ((Option.some (0, 2)), ())⟩, []⟩), ((0, 1), ⟨⟨qt6, ((Option.some (0, 3)), ((Option.some ((0, 4), (y13, (0, y14)))), ()))⟩, []⟩), ((0, 2), ⟨⟨qt3, ((Option.some (0, 5)), ((Option.some ((0, 6), (y3, (0, y4)))), (y5, ())))⟩, []⟩), ((0, 3), ⟨⟨qt1, (y15, (y16, (y17, ())))⟩, []⟩), ((0, 4), ⟨⟨(.arr (Nat.succ y18) (List.length y19) qt2), y19⟩, []⟩), ((0, 5), ⟨⟨qt1, (y6, (y7, (y8, ())))⟩, []⟩), ((0, 6), ⟨⟨(.arr (Nat.succ y9) (List.length y10) qt0), y10⟩, []⟩)]))))))))))))))))))))))))) ∧
 (((decide (x2_0 = (1 : Int))) = false) →
 ((((decide (x2_0 = (2 : Int))) = true) →
  (∃ y24 : Int,
  (∃ y25 : Int,
  (∃ y26 : Nat,
  (∃ y27 : Nat,
  (∃ y28 : Int,
  (∃ y29 : Int,
  (∃ y30 : Int,
  (∃ y31 : Int,
  (∃ y32 : Nat,
  (∃ y33 : qT0,
  (Need (E 13 [(.op (0, 0) []), (.tv [] (.int .i64) x2_1), (.tv [] (.int .i64) x2_2), (.tv [] qt12 x2_4)] [((0, 0), ⟨⟨qt9, ((Option.some (0, 1)), ())⟩, []⟩), ((0, 1), ⟨⟨qt3, ((Option.some (0, 2)), ((Option.some ((0, 3), (g6, (0, n6)))), (o0_0_2, ())))⟩, []⟩), ((0, 2), ⟨⟨qt1, (o0_0_0_0, (o0_0_0_1, (o0_0_0_2, ())))⟩, []⟩), ((0, 3), ⟨⟨(.arr (Nat.succ g6) (List.length l6) qt0), l6⟩, []⟩)] (.tup [(.tv [] (.int .i64) y24), (.tv [] (.int .i64) y25)]) [((0, 0), ⟨⟨qt9, ((Option.some (0, 1)), ())⟩, []⟩), ((0, 1), ⟨⟨qt3, ((Option.some (0, 2)), ((Option.some ((0, 3), (y26, (0, y27)))), (y28, ())))⟩, []⟩), ((0, 2), ⟨⟨qt1, (y29, (y30, (y31, ())))⟩, []⟩), ((0, 3), ⟨⟨(.arr (Nat.succ y32) (List.length y33) qt0), y33⟩, []⟩)]) ∧
  (∃ y34 : Int,
  (∃ y35 : Int,
  (∃ y36 : Nat,
  (∃ y37 : Nat,
  (∃ y38 : Int,
  (∃ y39 : Int,
  (∃ y40 : Int,
  (∃ y41 : Nat,
  (∃ y42 : qT1,
  (Need (E 56 [(.op (0, 0) []), (.tv [] (.int .i64) x2_1), (.tv [] (.int .i64) x2_2), (.tv [] qt12 x2_4)] [((0, 0), ⟨⟨qt6, ((Option.some (0, 1)), ((Option.some ((0, 2), (g4, (0, (List.length l4))))), ()))⟩, []⟩), ((0, 1), ⟨⟨qt1, (o1_0_0, (o1_0_1, (o1_0_2, ())))⟩, []⟩), ((0, 2), ⟨⟨(.arr (Nat.succ g4) (List.length l4) qt2), l4⟩, []⟩)] (.tup [(.tv [] (.int .i64) y34), (.tv [] (.int .i64) y35)]) [((0, 0), ⟨⟨qt6, ((Option.some (0, 1)), ((Option.some ((0, 2), (y36, (0, y37)))), ()))⟩, []⟩), ((0, 1), ⟨⟨qt1, (y38, (y39, (y40, ())))⟩, []⟩), ((0, 2), ⟨⟨(.arr (Nat.succ y41) (List.length y42) qt2), y42⟩, []⟩)]) ∧
  ((((decide (y24 = y34)) = true) →
   (Q (.tv [] .bool (decide (y25 = y35))) [((0, 0), ⟨⟨qt9, ((Option.some (0, 2)), ())⟩, []⟩), ((0, 1), ⟨⟨qt6, ((Option.some (0, 3)), ((Option.some ((0, 4), (y36, (0, y37)))), ()))⟩, []⟩), ((0, 2), ⟨⟨qt3, ((Option.some (0, 5)), ((Option.some ((0, 6), (y26, (0, y27)))), (y28, ())))⟩, []⟩), ((0, 3), ⟨⟨qt1, (y38, (y39, (y40, ())))⟩, []⟩), ((0, 4), ⟨⟨(.arr (Nat.succ y41) (List.length y42) qt2), y42⟩, []⟩), ((0, 5), ⟨⟨qt1, (y29, (y30, (y31, ())))⟩, []⟩), ((0, 6), ⟨⟨(.arr (Nat.succ y32) (List.length y33) qt0), y33⟩, []⟩)])) ∧
  (((decide (y24 = y34)) = false) →
  (Q (.tv [] .bool false) [((0, 0), ⟨⟨qt9, ((Option.some (0, 2)), ())⟩, []⟩), ((0, 1), ⟨⟨qt6, ((Option.some (0, 3)), ((Option.some ((0, 4), (y36, (0, y37)))), ()))⟩, []⟩), ((0, 2), ⟨⟨qt3, ((Option.some (0, 5)), ((Option.some ((0, 6), (y26, (0, y27)))), (y28, ())))⟩, []⟩), ((0, 3), ⟨⟨qt1, (y38, (y39, (y40, ())))⟩, []⟩), ((0, 4), ⟨⟨(.arr (Nat.succ y41) (List.length y42) qt2), y42⟩, []⟩), ((0, 5), ⟨⟨qt1, (y29, (y30, (y31, ())))⟩, []⟩), ((0, 6), ⟨⟨(.arr (Nat.succ y32) (List.length y33) qt0), y33⟩, []⟩)]))))))))))))))))))))))))) ∧
 (((decide (x2_0 = (2 : Int))) = false) →
 ((((decide (x2_0 = (3 : Int))) = true) →
  (∃ y47 : Int,
  (∃ y48 : Nat,
  (∃ y49 : Nat,
  (∃ y50 : Int,
  (∃ y51 : Int,
  (∃ y52 : Int,
  (∃ y53 : Nat,
  (∃ y54 : qT1,
  (Need (E 34 [(.op (0, 0) [])] [((0, 0), ⟨⟨qt6, ((Option.some (0, 1)), ((Option.some ((0, 2), (g4, (0, (List.length l4))))), ()))⟩, []⟩), ((0, 1), ⟨⟨qt1, (o1_0_0, (o1_0_1, (o1_0_2, ())))⟩, []⟩), ((0, 2), ⟨⟨(.arr (Nat.succ g4) (List.length l4) qt2), l4⟩, []⟩)] (.tv [] (.int .i64) y47) [((0, 0), ⟨⟨qt6, ((Option.some (0, 1)), ((Option.some ((0, 2), (y48, (0, y49)))), ()))⟩, []⟩), ((0, 1), ⟨⟨qt1, (y50, (y51, (y52, ())))⟩, []⟩), ((0, 2), ⟨⟨(.arr (Nat.succ y53) (List.length y54) qt2), y54⟩, []⟩)]) ∧
  (∃ y55 : Int,
  (∃ y56 : Int,
  (∃ y57 : Int,
  (∃ y58 : Int,
  (Need (E 57 [(.op (0, 0) []), (.tv [] (.int .i64) y47)] [((0, 0), ⟨⟨qt1, (y50, (y51, (y52, ())))⟩, []⟩)] (.tv [] (.int .i64) y55) [((0, 0), ⟨⟨qt1, (y56, (y57, (y58, ())))⟩, []⟩)]) ∧
  (∃ y59 : Int,
  (∃ y60 : Nat,
  (∃ y61 : Nat,
  (∃ y62 : Int,
  (∃ y63 : Int,
  (∃ y64 : Int,
  (∃ y65 : Int,
  (∃ y66 : Nat,
  (∃ y67 : qT0,
  (Need (E 31 [(.op (0, 0) [])] [((0, 0), ⟨⟨qt9, ((Option.some (0, 1)), ())⟩, []⟩), ((0, 1), ⟨⟨qt3, ((Option.some (0, 2)), ((Option.some ((0, 3), (g6, (0, n6)))), (o0_0_2, ())))⟩, []⟩), ((0, 2), ⟨⟨qt1, (o0_0_0_0, (o0_0_0_1, (o0_0_0_2, ())))⟩, []⟩), ((0, 3), ⟨⟨(.arr (Nat.succ g6) (List.length l6) qt0), l6⟩, []⟩)] (.tv [] (.int .i64) y59) [((0, 0), ⟨⟨qt9, ((Option.some (0, 1)), ())⟩, []⟩), ((0, 1), ⟨⟨qt3, ((Option.some (0, 2)), ((Option.some ((0, 3), (y60, (0, y61)))), (y62, ())))⟩, []⟩), ((0, 2), ⟨⟨qt1, (y63, (y64, (y65, ())))⟩, []⟩), ((0, 3), ⟨⟨(.arr (Nat.succ y66) (List.length y67) qt0), y67⟩, []⟩)]) ∧
  (Q (.tv [] .bool (decide (y59 = y47))) [((0, 0), ⟨⟨qt9, ((Option.some (0, 2)), ())⟩, []⟩), ((0, 1), ⟨⟨qt6, ((Option.some (0, 3)), ((Option.some ((0, 4), ((Nat.succ y53), (0, 0)))), ()))⟩, []⟩), ((0, 2), ⟨⟨qt3, ((Option.some (0, 5)), ((Option.some ((0, 6), (y60, (0, y61)))), (y62, ())))⟩, []⟩), ((0, 3), ⟨⟨qt1, (y56, (y57, (y58, ())))⟩, []⟩), ((0, 4), ⟨⟨(.arr (Nat.succ (Nat.succ y53)) 0 qt2), []⟩, []⟩), ((0, 5), ⟨⟨qt1, (y63, (y64, (y65, ())))⟩, []⟩), ((0, 6), ⟨⟨(.arr (Nat.succ y66) (List.length y67) qt0), y67⟩, []⟩)])))))))))))))))))))))))))) ∧
 (((decide (x2_0 = (3 : Int))) = false) →
 (Q (.tv [] .bool true) [((0, 0), ⟨⟨qt9, ((Option.some (0, 2)), ())⟩, []⟩), ((0, 1), ⟨⟨qt6, ((Option.some (0, 3)), ((Option.some ((0, 4), (g4, (0, (List.length l4))))), ()))⟩, []⟩), ((0, 2), ⟨⟨qt3, ((Option.some (0, 5)), ((Option.some ((0, 6), (g6, (0, n6)))), (o0_0_2, ())))⟩, []⟩), ((0, 3), ⟨⟨qt1, (o1_0_0, (o1_0_1, (o1_0_2, ())))⟩, []⟩), ((0, 4), ⟨⟨(.arr (Nat.succ g4) (List.length l4) qt2), l4⟩, []⟩), ((0, 5), ⟨⟨qt1, (o0_0_0_0, (o0_0_0_1, (o0_0_0_2, ())))⟩, []⟩), ((0, 6), ⟨⟨(.arr (Nat.succ g6) (List.length l6) qt0), l6⟩, []⟩)])))))))) : EvF PP orc 27 [.op (0, 0) [], .op (0, 1) [], .tv [] qt8 (x2_0, (x2_1, (x2_2, ((x2_3_0, (x2_3_1, (x2_3_2, ()))), (x2_4, ())))))] [((0, 0), ⟨⟨qt9, ((some (0, 2)), ())⟩, []⟩), ((0, 1), ⟨⟨qt6, ((some (0, 3)), ((some ((0, 4), g4, 0, l4.length)), ()))⟩, []⟩), ((0, 2), ⟨⟨qt3, ((some (0, 5)), ((some ((0, 6), g6, 0, n6)), (o0_0_2, ())))⟩, []⟩), ((0, 3), ⟨⟨qt1, (o1_0_0, (o1_0_1, (o1_0_2, ())))⟩, []⟩), ((0, 4), ⟨⟨.arr (Nat.succ g4) l4.length qt2, l4⟩, []⟩), ((0, 5), ⟨⟨qt1, (o0_0_0_0, (o0_0_0_1, (o0_0_0_2, ())))⟩, []⟩), ((0, 6), ⟨⟨.arr (Nat.succ g6) l6.length qt0, l6⟩, []⟩)] Q := vcF_ok (sg := sg) (Eq.mp (by kernel_rfl) h)
theorem vc20 (x0_0 : Int) (x0_1 : Int) (x0_2 : List (Int)) (x0_3 : List (List (Int))) (x0_4 : List (Int)) (x0_5 : List (Int)) (x0_6 : List (Int)) (x1 : Int) (x2 : Int) (Q : AV → Heap → Prop) (h :
((((decide (x1 < ((List.length x0_2) : Int))) = true) →
  (Q (.tv [] .bool false) [])) ∧
 (((decide (x1 < ((List.length x0_2) : Int))) = false) →
 ((((decide ((5 : Int) < ((List.length x0_5) : Int))) = true) →
  (Q (.tv [] .bool false) [])) ∧
 (((decide ((5 : Int) < ((List.length x0_5) : Int))) = false) →
 (∃ y4 : (Int → Prop),
 (∃ y5 : (Int → Nat),
 ((y4 (0 : Int)) ∧
 (∀ z6 : Int,
 ((y4 z6) →
 ((((decide (z6 < ((List.length x0_3) : Int))) = true) →
  (Need (((0 : Int) ≤ z6) ∧ (z6 < ((List.length x0_3) : Int))) ∧
  ((((decide (x2 < ((List.length (List.getD x0_3 (Int.toNat z6) [])) : Int))) = true) →
   (Q (.tv [] .bool false) [])) ∧
  (((decide (x2 < ((List.length (List.getD x0_3 (Int.toNat z6) [])) : Int))) = false) →
  (Need (((-9223372036854775808 : Int) ≤ (z6 + (1 : Int))) ∧ ((z6 + (1 : Int)) ≤ (9223372036854775807 : Int))) ∧
  ((y4 (z6 + (1 : Int))) ∧
  Need ((y5 (z6 + (1 : Int))) < (y5 z6)))))))) ∧
 (((decide (z6 < ((List.length x0_3) : Int))) = false) →
 (Q (.tv [] .bool true) []))))))))))))) : EvF PP orc 20 [.tv [] qt7 (x0_0, (x0_1, (x0_2, (x0_3, (x0_4, (x0_5, (x0_6, ()))))))), .tv [] (.int .i64) x1, .tv [] (.int .i64) x2] [] Q := vcF_ok (sg := sg) (Eq.mp (by kernel_rfl) h)
theorem vc21 (x0 : List ((Int × (Int × (Int × ((Int × (Int × (Int × Unit))) × (List (Int) × Unit))))))) (Q : AV → Heap → Prop) (h :
(∃ y0 : (Int → Prop),
 (∃ y1 : (Int → Nat),
 ((y0 (0 : Int)) ∧
 (∀ z2 : Int,
 ((y0 z2) →
 ((((decide (z2 < ((List.length x0) : Int))) = true) →
  (Need (((0 : Int) ≤ z2) ∧ (z2 < ((List.length x0) : Int))) ∧
  ((((decide ((10 : Int) < ((List.length (List.getD x0 (Int.toNat z2) ((0 : Int), ((0 : Int), ((0 : Int), (((0 : Int), ((0 : Int), ((0 : Int), ()))), ([], ())))))).2.2.2.2.1) : Int))) = true) →
   (Q (.tv [] .bool false) [])) ∧
  (((decide ((10 : Int) < ((List.length (List.getD x0 (Int.toNat z2) ((0 : Int), ((0 : Int), ((0 : Int), (((0 : Int), ((0 : Int), ((0 : Int), ()))), ([], ())))))).2.2.2.2.1) : Int))) = false) →
  (Need (((-9223372036854775808 : Int) ≤ (z2 + (1 : Int))) ∧ ((z2 + (1 : Int)) ≤ (9223372036854775807 : Int))) ∧
  ((y0 (z2 + (1 : Int))) ∧
  Need ((y1 (z2 + (1 : Int))) < (y1 z2)))))))) ∧
 (((decide (z2 < ((List.length x0) : Int))) = false) →
 (Q (.tv [] .bool (decide (((List.length x0) : Int) ≤ (40 : Int)))) []))))))))) : EvF PP orc 21 [.tv [] (.slice qt8) x0] [] Q := vcF_ok (sg := sg) (Eq.mp (by kernel_rfl) h)
theorem vc22 (x0_0 : List qT2) (x0_1 : List qT2) (x0_2 : List ((Int × (List (Int) × (Int × Unit))))) (x0_3 : List (Int)) (x0_4 : List (Int)) (x0_5 : List qT2) (x1 : List ((Int × (Int × (Int × ((Int × (Int × (Int × Unit))) × (List (Int) × Unit))))))) (Q : AV → Heap → Prop) (h :
(∃ y0 : Int,
 (∃ y1 : Int,
 (∃ y2 : Int,
 (Need (E 11 [(.tv [] (.int .i64) (1000 : Int))] [] (.op (1, 0) []) [((1, 0), ⟨⟨qt1, (y0, (y1, (y2, ())))⟩, []⟩)]) ∧
 (∃ y3 : Nat,
 (∃ y4 : qT0,
 (∃ y5 : Nat,
 (∃ y6 : Nat,
 (∃ y7 : Int,
 (∃ y8 : Int,
 (∃ y9 : Int,
 (∃ y10 : Int,
 (Need (E 10 [(.op (0, 0) [])] [((0, 0), ⟨⟨qt1, (y0, (y1, (y2, ())))⟩, []⟩)] (.op (1, 0) []) [((1, 0), ⟨⟨qt9, ((Option.some (1, 1)), ())⟩, []⟩), ((1, 2), ⟨⟨(.arr (Nat.succ y3) (List.length y4) qt0), y4⟩, []⟩), ((1, 1), ⟨⟨qt3, ((Option.some (0, 0)), ((Option.some ((1, 2), (y5, (0, y6)))), (y7, ())))⟩, []⟩), ((0, 0), ⟨⟨qt1, (y8, (y9, (y10, ())))⟩, []⟩)]) ∧
 (((false = true) →
  (Q (.tup [(.tv [] .ref (Option.none )), (.op (1, 0) [])]) [((1, 0), ⟨⟨qt6, ((Option.some (1, 1)), ((Option.some ((1, 2), (0, (0, 0)))), ()))⟩, []⟩), ((1, 2), ⟨⟨(.arr 1 0 qt2), []⟩, []⟩), ((1, 1), ⟨⟨qt1, ((1000 : Int), ((0 : Int), ((0 : Int), ())))⟩, []⟩)])) ∧
 ((false = false) →
 (∃ y13 : (Int → (Int → (Int → (Int → (qT1 → (Int → (Int → (Int → (Int → (qT0 → (Int → (Int → (Int → (Int → (Int → (Int → Prop)))))))))))))))),
 (∃ y14 : (Int → (Int → (Int → (Int → (qT1 → (Int → (Int → (Int → (Int → (qT0 → (Int → (Int → (Int → (Int → (Int → (Int → Nat)))))))))))))))),
 (Need ((0 = 0) ∧ ((List.length y4) = (List.length y4))) ∧
 ((y13 (0 : Int) ((0 : Nat) : Int) ((0 : Nat) : Int) ((0 : Nat) : Int) [] (1000 : Int) (0 : Int) (0 : Int) (y3 : Int) y4 (y5 : Int) (y6 : Int) y7 y8 y9 y10) ∧
 (∀ z15 : Int,
 (∀ z16 : Int,
 (∀ z17 : Int,
 (∀ z18 : Int,
 (∀ z19 : qT1,
 (∀ z20 : Int,
 (∀ z21 : Int,
 (∀ z22 : Int,
 (∀ z23 : Int,
 (∀ z24 : qT0,
 (∀ z25 : Int,
 (∀ z26 : Int,
 (∀ z27 : Int,
 (∀ z28 : Int,
 (∀ z29 : Int,
 (∀ z30 : Int,
 ((y13 z15 z16 z17 z18 z19 z20 z21 z22 z23 z24 z25 z26 z27 z28 z29 z30) →
 ((((decide (z15 < ((List.length x1) : Int))) = true) →
  (Need (((0 : Int) ≤ z15) ∧ (z15 < ((List.length x1) : Int))) ∧
  (∃ y33 : Int,
  (∃ y34 : Int,
  (∃ y35 : Int,
  (∃ y36 : Int,
  (∃ y37 : Int,
  (∃ y38 : Int,
  (∃ y39 : qT2,
  (∃ y40 : Nat,
  (∃ y41 : Nat,
  (∃ y42 : Int,
  (∃ y43 : Int,
  (∃ y44 : Int,
  (∃ y45 : Nat,
  (∃ y46 : qT1,
  (Need (E 28 [(.tv [] qt5 (x0_0, (x0_1, (x0_2, (x0_3, (x0_4, (x0_5, ()))))))), (.op (0, 0) []), (.tv [] qt8 (List.getD x1 (Int.toNat z15) ((0 : Int), ((0 : Int), ((0 : Int), (((0 : Int), ((0 : Int), ((0 : Int), ()))), ([], ())))))))] [((0, 0), ⟨⟨qt6, ((Option.some (0, 1)), ((Option.some ((0, 2), ((Int.toNat z16), (0, (Int.toNat z17))))), ()))⟩, []⟩), ((0, 1), ⟨⟨qt1, (z20, (z21, (z22, ())))⟩, []⟩), ((0, 2), ⟨⟨(.arr (Nat.succ (Int.toNat z18)) (List.length z19) qt2), z19⟩, []⟩)] (.tv [] qt8 (y33, (y34, (y35, ((y36, (y37, (y38, ()))), (y39, ())))))) [((0, 0), ⟨⟨qt6, ((Option.some (0, 1)), ((Option.some ((0, 2), (y40, (0, y41)))), ()))⟩, []⟩), ((0, 1), ⟨⟨qt1, (y42, (y43, (y44, ())))⟩, []⟩), ((0, 2), ⟨⟨(.arr (Nat.succ y45) (List.length y46) qt2), y46⟩, []⟩)]) ∧
  (∃ y47 : Bool,
  (∃ y48 : Nat,
  (∃ y49 : Nat,
  (∃ y50 : Nat,
  (∃ y51 : Nat,
  (∃ y52 : Int,
  (∃ y53 : Int,
  (∃ y54 : Int,
  (∃ y55 : Int,
  (∃ y56 : Nat,
  (∃ y57 : qT1,
  (∃ y58 : Int,
  (∃ y59 : Int,
  (∃ y60 : Int,
  (∃ y61 : Nat,
  (∃ y62 : qT0,
  (Need (E 27 [(.op (0, 0) []), (.op (0, 1) []), (.tv [] qt8 (y33, (y34, (y35, ((y36, (y37, (y38, ()))), (y39, ()))))))] [((0, 0), ⟨⟨qt9, ((Option.some (0, 2)), ())⟩, []⟩), ((0, 1), ⟨⟨qt6, ((Option.some (0, 3)), ((Option.some ((0, 4), (y40, (0, y41)))), ()))⟩, []⟩), ((0, 2), ⟨⟨qt3, ((Option.some (0, 5)), ((Option.some ((0, 6), ((Int.toNat z25), (0, (Int.toNat z26))))), (z27, ())))⟩, []⟩), ((0, 3), ⟨⟨qt1, (y42, (y43, (y44, ())))⟩, []⟩), ((0, 4), ⟨⟨(.arr (Nat.succ y45) (List.length y46) qt2), y46⟩, []⟩), ((0, 5), ⟨⟨qt1, (z28, (z29, (z30, ())))⟩, []⟩), ((0, 6), ⟨⟨(.arr (Nat.succ (Int.toNat z23)) (List.length z24) qt0), z24⟩, []⟩)] (.tv [] .bool y47) [((0, 0), ⟨⟨qt9, ((Option.some (0, 2)), ())⟩, []⟩), ((0, 1), ⟨⟨qt6, ((Option.some (0, 3)), ((Option.some ((0, 4), (y48, (0, y49)))), ()))⟩, []⟩), ((0, 2), ⟨⟨qt3, ((Option.some (0, 5)), ((Option.some ((0, 6), (y50, (0, y51)))), (y52, ())))⟩, []⟩), ((0, 3), ⟨⟨qt1, (y53, (y54, (y55, ())))⟩, []⟩), ((0, 4), ⟨⟨(.arr (Nat.succ y56) (List.length y57) qt2), y57⟩, []⟩), ((0, 5), ⟨⟨qt1, (y58, (y59, (y60, ())))⟩, []⟩), ((0, 6), ⟨⟨(.arr (Nat.succ y61) (List.length y62) qt0), y62⟩, []⟩)]) ∧
  (Need (((-9223372036854775808 : Int) ≤ (z15 + (1 : Int))) ∧ ((z15 + (1 : Int)) ≤ (9223372036854775807 : Int))) ∧
  (Need (((List.length y57) = (List.length y57)) ∧ ((List.length y62) = (List.length y62))) ∧
  ((y13 (z15 + (1 : Int)) (y48 : Int) (y49 : Int) (y56 : Int) y57 y53 y54 y55 (y61 : Int) y62 (y50 : Int) (y51 : Int) y52 y58 y59 y60) ∧
  Need ((y14 (z15 + (1 : Int)) (y48 : Int) (y49 : Int) (y56 : Int) y57 y53 y54 y55 (y61 : Int) y62 (y50 : Int) (y51 : Int) y52 y58 y59 y60) < (y14 z15 z16 z17 z18 z19 z20 z21 z22 z23 z24 z25 z26 z27 z28 z29 z30))))))))))))))))))))))))))))))))))))))) ∧
 (((decide (z15 < ((List.length x1) : Int))) = false) →
 (Q (.tup [(.op (1, 0) []), (.op (1, 1) [])]) [((1, 1), ⟨⟨qt6, ((Option.some (1, 3)), ((Option.some ((1, 4), ((Int.toNat z16), (0, (Int.toNat z17))))), ()))⟩, []⟩), ((1, 4), ⟨⟨(.arr (Nat.succ (Int.toNat z18)) (List.length z19) qt2), z19⟩, []⟩), ((1, 3), ⟨⟨qt1, (z20, (z21, (z22, ())))⟩, []⟩), ((1, 6), ⟨⟨(.arr (Nat.succ (Int.toNat z23)) (List.length z24) qt0), z24⟩, []⟩), ((1, 2), ⟨⟨qt3, ((Option.some (1, 5)), ((Option.some ((1, 6), ((Int.toNat z25), (0, (Int.toNat z26))))), (z27, ())))⟩, []⟩), ((1, 0), ⟨⟨qt9, ((Option.some (1, 2)), ())⟩, []⟩), ((1, 5), ⟨⟨qt1, (z28, (z29, (z30, ())))⟩, []⟩)])))))))))))))))))))))))))))))))))))))))) : EvF PP orc 22 [.tv [] qt5 (x0_0, (x0_1, (x0_2, (x0_3, (x0_4, (x0_5, ())))))), .tv [] (.slice qt8) x1] [] Q := vcF_ok (sg := sg) (Eq.mp (by kernel_rfl) h)
end Go.Am.T
