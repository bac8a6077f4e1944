/-
  A part of the proof of a law: see the text that states it.
-/
import Derived.Test.YtgfkdbplahpknaaHead
set_option linter.all false
namespace Go.Am.T
open Go
set_option maxRecDepth 100000
set_option maxHeartbeats 4000000
theorem vc58 (x1 : Int) (g2 : Nat) (l2 : List ((Bool × (Int × (Int × ((Int × (Int × (Int × Unit))) × (List (Int) × (Bool × Unit)))))))) (o0_0_0 : Int) (o0_0_1 : Int) (o0_0_2 : Int) (Q : AV → Heap → Prop) (h :
(Need ((-9223372036854775808 ≤ ((l2.length : Int) - (1 : Int))) ∧ (((l2.length : Int) - (1 : Int)) ≤ 9223372036854775807)) ∧
 (∃ y0 : (qT2 → (Int → (Int → (Int → (Int → (Int → (Int → (Int → (qT1 → Prop))))))))),
 (∃ y1 : (qT2 → (Int → (Int → (Int → (Int → (Int → (Int → (Int → (qT1 → Nat))))))))),
 (Need (l2.length = l2.length) ∧
 ((y0 [] ((l2.length : Int) - (1 : Int)) (g2 : Int) (l2.length : Int) o0_0_0 o0_0_1 o0_0_2 (g2 : Int) l2) ∧
 (∀ z2 : qT2,
 (∀ z3 z4 z5 z6 z7 z8 z9 : Int,
 (∀ z10 : qT1,
 ((y0 z2 z3 z4 z5 z6 z7 z8 z9 z10) →
 ((((decide (0 ≤ z3)) = true) →
 ((((decide ((z2.length : Int) < x1)) = true) →
 (Need ((0 ≤ z3) ∧ (z3 < (z5.toNat : Int))) ∧
 (Need (z9.toNat = z4.toNat) ∧
 (Need ((0 + z3.toNat) < z10.length) ∧
 (Need (z9.toNat = z4.toNat) ∧
 (Need ((0 + z3.toNat) < z10.length) ∧
 ((((!(List.getD z10 (0 + z3.toNat) (false, ((0 : Int), ((0 : Int), (((0 : Int), ((0 : Int), ((0 : Int), ()))), ([], (false, ()))))))).2.2.2.2.2.1) = true) →
 (Need (((List.length [z3]) + z2.length) ≤ bigN) ∧
 (Need ((-9223372036854775808 ≤ (z3 - 1)) ∧ ((z3 - 1) ≤ 9223372036854775807)) ∧
 (Need (z10.length = z10.length) ∧
 ((y0 ([z3] ++ z2) (z3 - 1) (z4.toNat : Int) (z5.toNat : Int) z6 z7 z8 (z9.toNat : Int) z10) ∧
    Need ((y1 ([z3] ++ z2) (z3 - 1) (z4.toNat : Int) (z5.toNat : Int) z6 z7 z8 (z9.toNat : Int) z10) < (y1 z2 z3 z4 z5 z6 z7 z8 z9 z10))))))) ∧
 (((!(List.getD z10 (0 + z3.toNat) (false, ((0 : Int), ((0 : Int), (((0 : Int), ((0 : Int), ((0 : Int), ()))), ([], (false, ()))))))).2.2.2.2.2.1) = false) →
 (Need ((-9223372036854775808 ≤ (z3 - 1)) ∧ ((z3 - 1) ≤ 9223372036854775807)) ∧
 (Need (z10.length = z10.length) ∧
 ((y0 z2 (z3 - 1) (z4.toNat : Int) (z5.toNat : Int) z6 z7 z8 (z9.toNat : Int) z10) ∧
   Need ((y1 z2 (z3 - 1) (z4.toNat : Int) (z5.toNat : Int) z6 z7 z8 (z9.toNat : Int) z10) < (y1 z2 z3 z4 z5 z6 z7 z8 z9 z10))))))))))))) ∧
 (((decide ((z2.length : Int) < x1)) = false) →
 (Q (.tv [[]] qt8 z2) (hq1 z4.toNat z5.toNat z6 z7 z8 z9.toNat z10))))) ∧
 (((decide (0 ≤ z3)) = false) →
 (Q (.tv [[]] qt8 z2) (hq1 z4.toNat z5.toNat z6 z7 z8 z9.toNat z10)))))))))))))) : EvF PP orc 58 [.op (0, 0) [], .tv [] (.int .i64) x1] (hq8 g2 l2 o0_0_0 o0_0_1 o0_0_2) Q := vcF_ok (sg := sg) (Eq.mp (by kernel_rfl) h)
theorem vc28 (x0_0 : List qT2) (x0_1 : List qT2) (x0_2 : List ((Int × (List (Int) × (Int × Unit))))) (x0_3 : List (Int)) (x0_4 : List (Int)) (x0_5 : List qT2) (x2_0 : Int) (x2_1 : Int) (x2_2 : Int) (x2_3_0 : Int) (x2_3_1 : Int) (x2_3_2 : Int) (x2_4 : List (Int)) (g2 : Nat) (l2 : List ((Bool × (Int × (Int × ((Int × (Int × (Int × Unit))) × (List (Int) × (Bool × Unit)))))))) (o0_0_0 : Int) (o0_0_1 : Int) (o0_0_2 : Int) (Q : AV → Heap → Prop) (h :
((((decide (x2_0 ≠ (4 : Int))) = true) →
 (Q (.tv [] qt11 (x2_0, (x2_1, (x2_2, ((x2_3_0, (x2_3_1, (x2_3_2, ()))), (x2_4, ())))))) (hq6 g2 l2 o0_0_0 o0_0_1 o0_0_2))) ∧
 (((decide (x2_0 ≠ (4 : Int))) = false) →
 (Need ((-9223372036854775808 ≤ ((x0_2.length : Int) - (1 : Int))) ∧ (((x0_2.length : Int) - (1 : Int)) ≤ 9223372036854775807)) ∧
 (Need (((x0_2.length : Int) - (1 : Int)) ≠ (0 : Int)) ∧
 (Need (¬ ((IntKind.i64 = IntKind.u8) ∧ (¬ ((0 ≤ x2_1) ∧ ((x2_1 < 256) ∧ ((0 : Int) < ((x0_2.length : Int) - (1 : Int)))))))) ∧
 (Need ((-9223372036854775808 ≤ ((Int.tmod x2_1 ((x0_2.length : Int) - (1 : Int))) + ((x0_2.length : Int) - (1 : Int)))) ∧ (((Int.tmod x2_1 ((x0_2.length : Int) - (1 : Int))) + ((x0_2.length : Int) - (1 : Int))) ≤ 9223372036854775807)) ∧
 (Need (((x0_2.length : Int) - (1 : Int)) ≠ (0 : Int)) ∧
 (Need (¬ ((IntKind.i64 = IntKind.u8) ∧ (¬ (((0 : Int) ≤ ((Int.tmod x2_1 ((x0_2.length : Int) - (1 : Int))) + ((x0_2.length : Int) - (1 : Int)))) ∧ ((((Int.tmod x2_1 ((x0_2.length : Int) - (1 : Int))) + ((x0_2.length : Int) - (1 : Int))) < (256 : Int)) ∧ ((0 : Int) < ((x0_2.length : Int) - (1 : Int)))))))) ∧
 (Need ((-9223372036854775808 ≤ ((1 : Int) + (Int.tmod ((Int.tmod x2_1 ((x0_2.length : Int) - (1 : Int))) + ((x0_2.length : Int) - (1 : Int))) ((x0_2.length : Int) - (1 : Int))))) ∧ (((1 : Int) + (Int.tmod ((Int.tmod x2_1 ((x0_2.length : Int) - (1 : Int))) + ((x0_2.length : Int) - (1 : Int))) ((x0_2.length : Int) - (1 : Int)))) ≤ 9223372036854775807)) ∧
 (Need (((0 : Int) ≤ ((1 : Int) + (Int.tmod ((Int.tmod x2_1 ((x0_2.length : Int) - (1 : Int))) + ((x0_2.length : Int) - (1 : Int))) ((x0_2.length : Int) - (1 : Int))))) ∧ (((1 : Int) + (Int.tmod ((Int.tmod x2_1 ((x0_2.length : Int) - (1 : Int))) + ((x0_2.length : Int) - (1 : Int))) ((x0_2.length : Int) - (1 : Int)))) < (x0_2.length : Int))) ∧
 (Need (((0 : Int) ≤ ((1 : Int) + (Int.tmod ((Int.tmod x2_1 ((x0_2.length : Int) - (1 : Int))) + ((x0_2.length : Int) - (1 : Int))) ((x0_2.length : Int) - (1 : Int))))) ∧ (((1 : Int) + (Int.tmod ((Int.tmod x2_1 ((x0_2.length : Int) - (1 : Int))) + ((x0_2.length : Int) - (1 : Int))) ((x0_2.length : Int) - (1 : Int)))) < (x0_2.length : Int))) ∧
 (∃ y2 : qT2,
 (∃ y3 y4 : Nat,
 (∃ y5 y6 y7 : Int,
 (∃ y8 : Nat,
 (∃ y9 : qT1,
 (Need (E 58 [(.op (0, 0) []), (.tv [] (.int .i64) ((List.length (List.getD x0_2 (Int.toNat ((1 : Int) + (Int.tmod ((Int.tmod x2_1 ((x0_2.length : Int) - (1 : Int))) + ((x0_2.length : Int) - (1 : Int))) ((x0_2.length : Int) - (1 : Int))))) ((0 : Int), ([], ((0 : Int), ())))).2.1) : Int))] (hq6 g2 l2 o0_0_0 o0_0_1 o0_0_2) (.tv [[]] qt8 y2) (hq1 y3 y4 y5 y6 y7 y8 y9)) ∧
 (Q (.tv [] qt11 ((2 : Int), (((1 : Int) + (Int.tmod ((Int.tmod x2_1 ((x0_2.length : Int) - (1 : Int))) + ((x0_2.length : Int) - (1 : Int))) ((x0_2.length : Int) - (1 : Int)))), ((List.getD x0_2 (Int.toNat ((1 : Int) + (Int.tmod ((Int.tmod x2_1 ((x0_2.length : Int) - (1 : Int))) + ((x0_2.length : Int) - (1 : Int))) ((x0_2.length : Int) - (1 : Int))))) ((0 : Int), ([], ((0 : Int), ())))).1, (((0 : Int), ((0 : Int), ((0 : Int), ()))), (y2, ())))))) (hq1 y3 y4 y5 y6 y7 y8 y9)))))))))))))))))))) : EvF PP orc 28 [.tv [] qt3 (x0_0, (x0_1, (x0_2, (x0_3, (x0_4, (x0_5, ())))))), .op (0, 0) [], .tv [] qt11 (x2_0, (x2_1, (x2_2, ((x2_3_0, (x2_3_1, (x2_3_2, ()))), (x2_4, ())))))] (hq8 g2 l2 o0_0_0 o0_0_1 o0_0_2) Q := vcF_ok (sg := sg) (Eq.mp (by kernel_rfl) h)
theorem vc27 (x2_0 : Int) (x2_1 : Int) (x2_2 : Int) (x2_3_0 : Int) (x2_3_1 : Int) (x2_3_2 : Int) (x2_4 : List (Int)) (g4 : Nat) (l4 : List ((Bool × (Int × (Int × ((Int × (Int × (Int × Unit))) × (List (Int) × (Bool × Unit)))))))) (g6 : Nat) (l6 : List (((Int × (Int × ((Int × (Int × (Int × Unit))) × (List (Int) × (Bool × (Bool × Unit)))))) × (Int × Unit)))) (n6 : Nat) (o0_0_2 : Int) (o1_0_0 : Int) (o1_0_1 : Int) (o1_0_2 : Int) (o0_0_0_0 : Int) (o0_0_0_1 : Int) (o0_0_0_2 : Int) (Q : AV → Heap → Prop) (h :
((((decide (x2_0 = (1 : Int))) = true) →
 (∃ y1 y2 : Int,
 (∃ y3 y4 : Nat,
 (∃ y5 y6 y7 y8 : Int,
 (∃ y9 : Nat,
 (∃ y10 : qT0,
 (Need (E 12 [(.op (0, 0) []), (.tv [] qt1 (x2_3_0, (x2_3_1, (x2_3_2, ()))))] (hq12 g6 n6 o0_0_2 o0_0_0_0 o0_0_0_1 o0_0_0_2 l6) (.tup [(.tv [] (.int .i64) y1), (.tv [] (.int .i64) y2)]) (hq0 y3 y4 y5 y6 y7 y8 y9 y10)) ∧
 (∃ y11 y12 : Int,
 (∃ y13 y14 : Nat,
 (∃ y15 y16 y17 : Int,
 (∃ y18 : Nat,
 (∃ y19 : qT1,
 (Need (E 55 [(.op (0, 0) []), (.tv [] qt1 (x2_3_0, (x2_3_1, (x2_3_2, ()))))] (hq6 g4 l4 o1_0_0 o1_0_1 o1_0_2) (.tup [(.tv [] (.int .i64) y11), (.tv [] (.int .i64) y12)]) (hq1 y13 y14 y15 y16 y17 y18 y19)) ∧
 ((((decide (y1 = y11)) = true) →
 (Q (.tv [] .bool (decide (y2 = y12))) (hq9 y13 y14 y3 y4 y5 y15 y16 y17 y18 y19 y6 y7 y8 y9 y10))) ∧
 (((decide (y1 = y11)) = false) →
 (Q (.tv [] .bool false) (hq9 y13 y14 y3 y4 y5 y15 y16 y17 y18 y19 y6 y7 y8 y9 y10))))))))))))))))) ∧
 (((decide (x2_0 = (1 : Int))) = false) →
 ((((decide (x2_0 = (2 : Int))) = true) →
 (∃ y24 y25 : Int,
 (∃ y26 y27 : Nat,
 (∃ y28 y29 y30 y31 : Int,
 (∃ y32 : Nat,
 (∃ y33 : qT0,
 (Need (E 13 [(.op (0, 0) []), (.tv [] (.int .i64) x2_1), (.tv [] (.int .i64) x2_2), (.tv [] qt8 x2_4)] (hq12 g6 n6 o0_0_2 o0_0_0_0 o0_0_0_1 o0_0_0_2 l6) (.tup [(.tv [] (.int .i64) y24), (.tv [] (.int .i64) y25)]) (hq0 y26 y27 y28 y29 y30 y31 y32 y33)) ∧
 (∃ y34 y35 : Int,
 (∃ y36 y37 : Nat,
 (∃ y38 y39 y40 : Int,
 (∃ y41 : Nat,
 (∃ y42 : qT1,
 (Need (E 56 [(.op (0, 0) []), (.tv [] (.int .i64) x2_1), (.tv [] (.int .i64) x2_2), (.tv [] qt8 x2_4)] (hq6 g4 l4 o1_0_0 o1_0_1 o1_0_2) (.tup [(.tv [] (.int .i64) y34), (.tv [] (.int .i64) y35)]) (hq1 y36 y37 y38 y39 y40 y41 y42)) ∧
 ((((decide (y24 = y34)) = true) →
 (Q (.tv [] .bool (decide (y25 = y35))) (hq9 y36 y37 y26 y27 y28 y38 y39 y40 y41 y42 y29 y30 y31 y32 y33))) ∧
 (((decide (y24 = y34)) = false) →
 (Q (.tv [] .bool false) (hq9 y36 y37 y26 y27 y28 y38 y39 y40 y41 y42 y29 y30 y31 y32 y33))))))))))))))))) ∧
 (((decide (x2_0 = (2 : Int))) = false) →
 ((((decide (x2_0 = (3 : Int))) = true) →
 (∃ y47 : Int,
 (∃ y48 y49 : Nat,
 (∃ y50 y51 y52 : Int,
 (∃ y53 : Nat,
 (∃ y54 : qT1,
 (Need (E 34 [(.op (0, 0) [])] (hq6 g4 l4 o1_0_0 o1_0_1 o1_0_2) (.tv [] (.int .i64) y47) (hq1 y48 y49 y50 y51 y52 y53 y54)) ∧
 (∃ y55 y56 y57 y58 : Int,
 (Need (E 57 [(.op (0, 0) []), (.tv [] (.int .i64) y47)] (hq2 y50 y51 y52) (.tv [] (.int .i64) y55) (hq2 y56 y57 y58)) ∧
 (∃ y59 : Int,
 (∃ y60 y61 : Nat,
 (∃ y62 y63 y64 y65 : Int,
 (∃ y66 : Nat,
 (∃ y67 : qT0,
 (Need (E 31 [(.op (0, 0) [])] (hq12 g6 n6 o0_0_2 o0_0_0_0 o0_0_0_1 o0_0_0_2 l6) (.tv [] (.int .i64) y59) (hq0 y60 y61 y62 y63 y64 y65 y66 y67)) ∧
 (Q (.tv [] .bool (decide (y59 = y47))) [((0, 0), ⟨⟨qt7, ((some (0, 2)), ())⟩, []⟩), ((0, 1), ⟨⟨qt6, ((some (0, 3)), ((some ((0, 4), ((Nat.succ y53), (0, 0)))), ()))⟩, []⟩), ((0, 2), ⟨⟨qt4, ((some (0, 5)), ((some ((0, 6), (y60, (0, y61)))), (y62, ())))⟩, []⟩), ((0, 3), ⟨⟨qt1, (y56, (y57, (y58, ())))⟩, []⟩), ((0, 4), ⟨⟨(.arr (Nat.succ (Nat.succ y53)) 0 qt2), []⟩, []⟩), ((0, 5), ⟨⟨qt1, (y63, (y64, (y65, ())))⟩, []⟩), ((0, 6), ⟨⟨(.arr (Nat.succ y66) y67.length qt0), y67⟩, []⟩)])))))))))))))))) ∧
 (((decide (x2_0 = (3 : Int))) = false) →
 (Q (.tv [] .bool true) [((0, 0), ⟨⟨qt7, ((some (0, 2)), ())⟩, []⟩), ((0, 1), ⟨⟨qt6, ((some (0, 3)), ((some ((0, 4), (g4, (0, l4.length)))), ()))⟩, []⟩), ((0, 2), ⟨⟨qt4, ((some (0, 5)), ((some ((0, 6), (g6, (0, n6)))), (o0_0_2, ())))⟩, []⟩), ((0, 3), ⟨⟨qt1, (o1_0_0, (o1_0_1, (o1_0_2, ())))⟩, []⟩), ((0, 4), ⟨⟨(.arr (Nat.succ g4) l4.length qt2), l4⟩, []⟩), ((0, 5), ⟨⟨qt1, (o0_0_0_0, (o0_0_0_1, (o0_0_0_2, ())))⟩, []⟩), ((0, 6), ⟨⟨(.arr (Nat.succ g6) l6.length qt0), l6⟩, []⟩)])))))))) : EvF PP orc 27 [.op (0, 0) [], .op (0, 1) [], .tv [] qt11 (x2_0, (x2_1, (x2_2, ((x2_3_0, (x2_3_1, (x2_3_2, ()))), (x2_4, ())))))] [((0, 0), ⟨⟨qt7, ((some (0, 2)), ())⟩, []⟩), ((0, 1), ⟨⟨qt6, ((some (0, 3)), ((some ((0, 4), g4, 0, l4.length)), ()))⟩, []⟩), ((0, 2), ⟨⟨qt4, ((some (0, 5)), ((some ((0, 6), g6, 0, n6)), (o0_0_2, ())))⟩, []⟩), ((0, 3), ⟨⟨qt1, (o1_0_0, (o1_0_1, (o1_0_2, ())))⟩, []⟩), ((0, 4), ⟨⟨.arr (Nat.succ g4) l4.length qt2, l4⟩, []⟩), ((0, 5), ⟨⟨qt1, (o0_0_0_0, (o0_0_0_1, (o0_0_0_2, ())))⟩, []⟩), ((0, 6), ⟨⟨.arr (Nat.succ g6) l6.length qt0, l6⟩, []⟩)] Q := vcF_ok (sg := sg) (Eq.mp (by kernel_rfl) h)
theorem vc20 (x0_0 : Int) (x0_1 : Int) (x0_2 : List (Int)) (x0_3 : List (List (Int))) (x0_4 : List (Int)) (x0_5 : List (Int)) (x0_6 : List (Int)) (x1 : Int) (x2 : Int) (Q : AV → Heap → Prop) (h :
((((decide (x1 < (x0_2.length : Int))) = true) →
 (Q (.tv [] .bool false) [])) ∧
 (((decide (x1 < (x0_2.length : Int))) = false) →
 ((((decide ((5 : Int) < (x0_5.length : Int))) = true) →
 (Q (.tv [] .bool false) [])) ∧
 (((decide ((5 : Int) < (x0_5.length : Int))) = false) →
 (∃ y4 : (Int → Prop),
 (∃ y5 : (Int → Nat),
 ((y4 (0 : Int)) ∧
 (∀ z6 : Int,
 ((y4 z6) →
 ((((decide (z6 < (x0_3.length : Int))) = true) →
 (Need ((0 ≤ z6) ∧ (z6 < (x0_3.length : Int))) ∧
 ((((decide (x2 < ((List.length (List.getD x0_3 z6.toNat [])) : Int))) = true) →
 (Q (.tv [] .bool false) [])) ∧
 (((decide (x2 < ((List.length (List.getD x0_3 z6.toNat [])) : Int))) = false) →
 (Need ((-9223372036854775808 ≤ (z6 + 1)) ∧ ((z6 + 1) ≤ 9223372036854775807)) ∧
 ((y4 (z6 + 1)) ∧
  Need ((y5 (z6 + 1)) < (y5 z6)))))))) ∧
 (((decide (z6 < (x0_3.length : Int))) = false) →
 (Q (.tv [] .bool true) []))))))))))))) : EvF PP orc 20 [.tv [] qt9 (x0_0, (x0_1, (x0_2, (x0_3, (x0_4, (x0_5, (x0_6, ()))))))), .tv [] (.int .i64) x1, .tv [] (.int .i64) x2] [] Q := vcF_ok (sg := sg) (Eq.mp (by kernel_rfl) h)
theorem vc21 (x0 : List ((Int × (Int × (Int × ((Int × (Int × (Int × Unit))) × (List (Int) × Unit))))))) (Q : AV → Heap → Prop) (h :
(∃ y0 : (Int → Prop),
 (∃ y1 : (Int → Nat),
 ((y0 (0 : Int)) ∧
 (∀ z2 : Int,
 ((y0 z2) →
 ((((decide (z2 < (x0.length : Int))) = true) →
 (Need ((0 ≤ z2) ∧ (z2 < (x0.length : Int))) ∧
 ((((decide ((10 : Int) < ((List.length (List.getD x0 z2.toNat ((0 : Int), ((0 : Int), ((0 : Int), (((0 : Int), ((0 : Int), ((0 : Int), ()))), ([], ())))))).2.2.2.2.1) : Int))) = true) →
 (Q (.tv [] .bool false) [])) ∧
 (((decide ((10 : Int) < ((List.length (List.getD x0 z2.toNat ((0 : Int), ((0 : Int), ((0 : Int), (((0 : Int), ((0 : Int), ((0 : Int), ()))), ([], ())))))).2.2.2.2.1) : Int))) = false) →
 (Need ((-9223372036854775808 ≤ (z2 + 1)) ∧ ((z2 + 1) ≤ 9223372036854775807)) ∧
 ((y0 (z2 + 1)) ∧
  Need ((y1 (z2 + 1)) < (y1 z2)))))))) ∧
 (((decide (z2 < (x0.length : Int))) = false) →
 (Q (.tv [] .bool (decide ((x0.length : Int) ≤ (40 : Int)))) []))))))))) : EvF PP orc 21 [.tv [] (.slice qt11) x0] [] Q := vcF_ok (sg := sg) (Eq.mp (by kernel_rfl) h)
end Go.Am.T
