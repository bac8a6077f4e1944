/-
  A part of the proof of a law: see the text that states it.
-/
import Derived.Test.YtgfkdbplahpknaaHead
set_option linter.all false
namespace Go.Am.T
open Go
set_option maxRecDepth 100000
set_option maxHeartbeats 4000000
theorem vc34 (g2 : Nat) (l2 : List ((Bool × (Int × (Int × ((Int × (Int × (Int × Unit))) × (List (Int) × (Bool × Unit)))))))) (o0_0_0 : Int) (o0_0_1 : Int) (o0_0_2 : Int) (Q : AV → Heap → Prop) (h :
(∃ y0 : (Int → (Int → (Int → (Int → (Int → (Int → (Int → (Int → (qT1 → Prop))))))))),
 (∃ y1 : (Int → (Int → (Int → (Int → (Int → (Int → (Int → (Int → (qT1 → Nat))))))))),
 (Need (l2.length = l2.length) ∧
 ((y0 (0 : Int) (0 : Int) (g2 : Int) (l2.length : Int) o0_0_0 o0_0_1 o0_0_2 (g2 : Int) l2) ∧
 (∀ z2 z3 z4 z5 z6 z7 z8 z9 : Int,
 (∀ z10 : qT1,
 ((y0 z2 z3 z4 z5 z6 z7 z8 z9 z10) →
 ((((decide (z3 < (z5.toNat : Int))) = true) →
 (Need ((-9223372036854775808 ≤ (z2 + 1)) ∧ ((z2 + 1) ≤ 9223372036854775807)) ∧
 (Need ((0 ≤ z3) ∧ (z3 < (z5.toNat : Int))) ∧
 (Need (z9.toNat = z4.toNat) ∧
 (Need ((0 + z3.toNat) < z10.length) ∧
 (Need (z9.toNat = z4.toNat) ∧
 (Need ((0 + z3.toNat) < z10.length) ∧
 (Need ((-9223372036854775808 ≤ ((z2 + 1) + ((List.length (List.getD z10 (0 + z3.toNat) (false, ((0 : Int), ((0 : Int), (((0 : Int), ((0 : Int), ((0 : Int), ()))), ([], (false, ()))))))).2.2.2.2.1) : Int))) ∧ (((z2 + 1) + ((List.length (List.getD z10 (0 + z3.toNat) (false, ((0 : Int), ((0 : Int), (((0 : Int), ((0 : Int), ((0 : Int), ()))), ([], (false, ()))))))).2.2.2.2.1) : Int)) ≤ 9223372036854775807)) ∧
 (Need ((-9223372036854775808 ≤ (z3 + 1)) ∧ ((z3 + 1) ≤ 9223372036854775807)) ∧
 (Need (z10.length = z10.length) ∧
 ((y0 ((z2 + 1) + ((List.length (List.getD z10 (0 + z3.toNat) (false, ((0 : Int), ((0 : Int), (((0 : Int), ((0 : Int), ((0 : Int), ()))), ([], (false, ()))))))).2.2.2.2.1) : Int)) (z3 + 1) (z4.toNat : Int) (z5.toNat : Int) z6 z7 z8 (z9.toNat : Int) z10) ∧
  Need ((y1 ((z2 + 1) + ((List.length (List.getD z10 (0 + z3.toNat) (false, ((0 : Int), ((0 : Int), (((0 : Int), ((0 : Int), ((0 : Int), ()))), ([], (false, ()))))))).2.2.2.2.1) : Int)) (z3 + 1) (z4.toNat : Int) (z5.toNat : Int) z6 z7 z8 (z9.toNat : Int) z10) < (y1 z2 z3 z4 z5 z6 z7 z8 z9 z10))))))))))))) ∧
 (((decide (z3 < (z5.toNat : Int))) = false) →
 (Q (.tv [] (.int .i64) z2) (hq1 z4.toNat z5.toNat z6 z7 z8 z9.toNat z10)))))))))))) : EvF PP orc 34 [.op (0, 0) []] (hq8 g2 l2 o0_0_0 o0_0_1 o0_0_2) Q := vcF_ok (sg := sg) (Eq.mp (by kernel_rfl) h)
theorem vc35 (x1 : Int) (g2 : Nat) (l2 : List ((Bool × (Int × (Int × ((Int × (Int × (Int × Unit))) × (List (Int) × (Bool × Unit)))))))) (o0_0_0 : Int) (o0_0_1 : Int) (o0_0_2 : Int) (Q : AV → Heap → Prop) (h :
((((decide (x1 < 0)) = true) →
 (Q (.tv [] qt2 (false, ((-(1 : Int)), ((-(1 : Int)), (((0 : Int), ((0 : Int), ((0 : Int), ()))), ([], (false, ()))))))) (hq6 g2 l2 o0_0_0 o0_0_1 o0_0_2))) ∧
 (((decide (x1 < 0)) = false) →
 ((((decide ((l2.length : Int) ≤ x1)) = true) →
 (Q (.tv [] qt2 (false, ((-(1 : Int)), ((-(1 : Int)), (((0 : Int), ((0 : Int), ((0 : Int), ()))), ([], (false, ()))))))) (hq6 g2 l2 o0_0_0 o0_0_1 o0_0_2))) ∧
 (((decide ((l2.length : Int) ≤ x1)) = false) →
 (Need ((0 ≤ x1) ∧ (x1 < (l2.length : Int))) ∧
 (Need (g2 = g2) ∧
 (Need ((0 + x1.toNat) < l2.length) ∧
 (Q (.tv [] qt2 (List.getD l2 (0 + x1.toNat) (false, ((0 : Int), ((0 : Int), (((0 : Int), ((0 : Int), ((0 : Int), ()))), ([], (false, ())))))))) (hq6 g2 l2 o0_0_0 o0_0_1 o0_0_2)))))))))) : EvF PP orc 35 [.op (0, 0) [], .tv [] (.int .i64) x1] (hq8 g2 l2 o0_0_0 o0_0_1 o0_0_2) Q := vcF_ok (sg := sg) (Eq.mp (by kernel_rfl) h)
theorem vc37 (x1 : Int) (g2 : Nat) (l2 : List ((Bool × (Int × (Int × ((Int × (Int × (Int × Unit))) × (List (Int) × (Bool × Unit)))))))) (o0_0_0 : Int) (o0_0_1 : Int) (o0_0_2 : Int) (Q : AV → Heap → Prop) (h :
((((decide (x1 < 0)) = true) →
 (Q (.tv [[]] qt8 []) (hq6 g2 l2 o0_0_0 o0_0_1 o0_0_2))) ∧
 (((decide (x1 < 0)) = false) →
 ((((decide ((l2.length : Int) ≤ x1)) = true) →
 (Q (.tv [[]] qt8 []) (hq6 g2 l2 o0_0_0 o0_0_1 o0_0_2))) ∧
 (((decide ((l2.length : Int) ≤ x1)) = false) →
 (∃ y4 : (qT2 → (Int → (Int → (Int → (Int → (Int → (Int → (Int → (qT1 → Prop))))))))),
 (∃ y5 : (qT2 → (Int → (Int → (Int → (Int → (Int → (Int → (Int → (qT1 → Nat))))))))),
 (Need (l2.length = l2.length) ∧
 ((y4 [] (0 : Int) (g2 : Int) (l2.length : Int) o0_0_0 o0_0_1 o0_0_2 (g2 : Int) l2) ∧
 (∀ z6 : qT2,
 (∀ z7 z8 z9 z10 z11 z12 z13 : Int,
 (∀ z14 : qT1,
 ((y4 z6 z7 z8 z9 z10 z11 z12 z13 z14) →
 (Need ((0 ≤ x1) ∧ (x1 < (z9.toNat : Int))) ∧
 (Need (z13.toNat = z8.toNat) ∧
 (Need ((0 + x1.toNat) < z14.length) ∧
 (Need (z13.toNat = z8.toNat) ∧
 (Need ((0 + x1.toNat) < z14.length) ∧
 ((((decide (z7 < ((List.length (List.getD z14 (0 + x1.toNat) (false, ((0 : Int), ((0 : Int), (((0 : Int), ((0 : Int), ((0 : Int), ()))), ([], (false, ()))))))).2.2.2.2.1) : Int))) = true) →
 (Need ((0 ≤ x1) ∧ (x1 < (z9.toNat : Int))) ∧
 (Need (z13.toNat = z8.toNat) ∧
 (Need ((0 + x1.toNat) < z14.length) ∧
 (Need (z13.toNat = z8.toNat) ∧
 (Need ((0 + x1.toNat) < z14.length) ∧
 (Need ((0 ≤ z7) ∧ (z7 < ((List.length (List.getD z14 (0 + x1.toNat) (false, ((0 : Int), ((0 : Int), (((0 : Int), ((0 : Int), ((0 : Int), ()))), ([], (false, ()))))))).2.2.2.2.1) : Int))) ∧
 (∃ y17 : qT2,
 (∃ y18 y19 : Nat,
 (∃ y20 y21 y22 : Int,
 (∃ y23 : Nat,
 (∃ y24 : qT1,
 (Need (E 37 [(.op (0, 0) []), (.tv [] (.int .i64) (List.getD (List.getD z14 (0 + x1.toNat) (false, ((0 : Int), ((0 : Int), (((0 : Int), ((0 : Int), ((0 : Int), ()))), ([], (false, ()))))))).2.2.2.2.1 z7.toNat (0 : Int)))] (hq1 z8.toNat z9.toNat z10 z11 z12 z13.toNat z14) (.tv [[]] qt8 y17) (hq1 y18 y19 y20 y21 y22 y23 y24)) ∧
 (Need ((z6.length + y17.length) ≤ bigN) ∧
 (Need ((-9223372036854775808 ≤ (z7 + 1)) ∧ ((z7 + 1) ≤ 9223372036854775807)) ∧
 (Need (y24.length = y24.length) ∧
 ((y4 (z6 ++ y17) (z7 + 1) (y18 : Int) (y19 : Int) y20 y21 y22 (y23 : Int) y24) ∧
  Need ((y5 (z6 ++ y17) (z7 + 1) (y18 : Int) (y19 : Int) y20 y21 y22 (y23 : Int) y24) < (y5 z6 z7 z8 z9 z10 z11 z12 z13 z14))))))))))))))))))) ∧
 (((decide (z7 < ((List.length (List.getD z14 (0 + x1.toNat) (false, ((0 : Int), ((0 : Int), (((0 : Int), ((0 : Int), ((0 : Int), ()))), ([], (false, ()))))))).2.2.2.2.1) : Int))) = false) →
 (Need ((z6.length + (List.length [x1])) ≤ bigN) ∧
 (Q (.tv [[]] qt8 (z6 ++ [x1])) (hq1 z8.toNat z9.toNat z10 z11 z12 z13.toNat z14))))))))))))))))))))))) : EvF PP orc 37 [.op (0, 0) [], .tv [] (.int .i64) x1] (hq8 g2 l2 o0_0_0 o0_0_1 o0_0_2) Q := vcF_ok (sg := sg) (Eq.mp (by kernel_rfl) h)
theorem vc38 (x1 : Int) (g2 : Nat) (l2 : List ((Bool × (Int × (Int × ((Int × (Int × (Int × Unit))) × (List (Int) × (Bool × Unit)))))))) (o0_0_0 : Int) (o0_0_1 : Int) (o0_0_2 : Int) (Q : AV → Heap → Prop) (h :
(∃ y0 : qT2,
 (∃ y1 y2 : Nat,
 (∃ y3 y4 y5 : Int,
 (∃ y6 : Nat,
 (∃ y7 : qT1,
 (Need (E 37 [(.op (0, 0) []), (.tv [] (.int .i64) x1)] (hq6 g2 l2 o0_0_0 o0_0_1 o0_0_2) (.tv [[]] qt8 y0) (hq1 y1 y2 y3 y4 y5 y6 y7)) ∧
 (∃ y8 : (qT10 → (Int → (Int → (Int → (Int → (Int → (Int → (Int → (qT1 → Prop))))))))),
 (∃ y9 : (qT10 → (Int → (Int → (Int → (Int → (Int → (Int → (Int → (qT1 → Nat))))))))),
 (Need (y7.length = y7.length) ∧
 ((y8 [] (0 : Int) (y1 : Int) (y2 : Int) y3 y4 y5 (y6 : Int) y7) ∧
 (∀ z10 : qT10,
 (∀ z11 z12 z13 z14 z15 z16 z17 : Int,
 (∀ z18 : qT1,
 ((y8 z10 z11 z12 z13 z14 z15 z16 z17 z18) →
 ((((decide (z11 < (y0.length : Int))) = true) →
 (Need ((0 ≤ z11) ∧ (z11 < (y0.length : Int))) ∧
 (Need (((0 : Int) ≤ (List.getD y0 z11.toNat (0 : Int))) ∧ ((List.getD y0 z11.toNat (0 : Int)) < (z13.toNat : Int))) ∧
 (Need (z17.toNat = z12.toNat) ∧
 (Need ((0 + (Int.toNat (List.getD y0 z11.toNat (0 : Int)))) < z18.length) ∧
 (Need (z17.toNat = z12.toNat) ∧
 (Need ((0 + (Int.toNat (List.getD y0 z11.toNat (0 : Int)))) < z18.length) ∧
 ((((List.getD z18 (0 + (Int.toNat (List.getD y0 z11.toNat (0 : Int)))) (false, ((0 : Int), ((0 : Int), (((0 : Int), ((0 : Int), ((0 : Int), ()))), ([], (false, ()))))))).1 = true) →
 (Need ((0 ≤ z11) ∧ (z11 < (y0.length : Int))) ∧
 (Need (((0 : Int) ≤ (List.getD y0 z11.toNat (0 : Int))) ∧ ((List.getD y0 z11.toNat (0 : Int)) < (z13.toNat : Int))) ∧
 (Need (z17.toNat = z12.toNat) ∧
 (Need ((0 + (Int.toNat (List.getD y0 z11.toNat (0 : Int)))) < z18.length) ∧
 (Need (z17.toNat = z12.toNat) ∧
 (Need ((0 + (Int.toNat (List.getD y0 z11.toNat (0 : Int)))) < z18.length) ∧
 (Need ((z10.length + (List.length [(List.getD z18 (0 + (Int.toNat (List.getD y0 z11.toNat (0 : Int)))) (false, ((0 : Int), ((0 : Int), (((0 : Int), ((0 : Int), ((0 : Int), ()))), ([], (false, ()))))))).2.2.2.1])) ≤ bigN) ∧
 (Need ((-9223372036854775808 ≤ (z11 + 1)) ∧ ((z11 + 1) ≤ 9223372036854775807)) ∧
 (Need (z18.length = z18.length) ∧
 ((y8 (z10 ++ [(List.getD z18 (0 + (Int.toNat (List.getD y0 z11.toNat (0 : Int)))) (false, ((0 : Int), ((0 : Int), (((0 : Int), ((0 : Int), ((0 : Int), ()))), ([], (false, ()))))))).2.2.2.1]) (z11 + 1) (z12.toNat : Int) (z13.toNat : Int) z14 z15 z16 (z17.toNat : Int) z18) ∧
   Need ((y9 (z10 ++ [(List.getD z18 (0 + (Int.toNat (List.getD y0 z11.toNat (0 : Int)))) (false, ((0 : Int), ((0 : Int), (((0 : Int), ((0 : Int), ((0 : Int), ()))), ([], (false, ()))))))).2.2.2.1]) (z11 + 1) (z12.toNat : Int) (z13.toNat : Int) z14 z15 z16 (z17.toNat : Int) z18) < (y9 z10 z11 z12 z13 z14 z15 z16 z17 z18))))))))))))) ∧
 (((List.getD z18 (0 + (Int.toNat (List.getD y0 z11.toNat (0 : Int)))) (false, ((0 : Int), ((0 : Int), (((0 : Int), ((0 : Int), ((0 : Int), ()))), ([], (false, ()))))))).1 = false) →
 (Need ((-9223372036854775808 ≤ (z11 + 1)) ∧ ((z11 + 1) ≤ 9223372036854775807)) ∧
 (Need (z18.length = z18.length) ∧
 ((y8 z10 (z11 + 1) (z12.toNat : Int) (z13.toNat : Int) z14 z15 z16 (z17.toNat : Int) z18) ∧
  Need ((y9 z10 (z11 + 1) (z12.toNat : Int) (z13.toNat : Int) z14 z15 z16 (z17.toNat : Int) z18) < (y9 z10 z11 z12 z13 z14 z15 z16 z17 z18)))))))))))))) ∧
 (((decide (z11 < (y0.length : Int))) = false) →
 (Q (.tv [[]] (.slice qt1) z10) (hq1 z12.toNat z13.toNat z14 z15 z16 z17.toNat z18))))))))))))))))))) : EvF PP orc 38 [.op (0, 0) [], .tv [] (.int .i64) x1] (hq8 g2 l2 o0_0_0 o0_0_1 o0_0_2) Q := vcF_ok (sg := sg) (Eq.mp (by kernel_rfl) h)
theorem vc55 (x1_0 : Int) (x1_1 : Int) (x1_2 : Int) (g2 : Nat) (l2 : List ((Bool × (Int × (Int × ((Int × (Int × (Int × Unit))) × (List (Int) × (Bool × Unit)))))))) (o0_0_0 : Int) (o0_0_1 : Int) (o0_0_2 : Int) (Q : AV → Heap → Prop) (h :
(∃ y0 y1 y2 y3 : Int,
 (Need (E 74 [(.op (0, 0) []), (.tv [] (.int .i64) (1 : Int))] (hq2 o0_0_0 o0_0_1 o0_0_2) (.tv [] (.int .i64) y0) (hq2 y1 y2 y3)) ∧
 ((((decide (y0 ≠ (0 : Int))) = true) →
 (Q (.tup [(.tv [] (.int .i64) (0 : Int)), (.tv [] (.int .i64) y0)]) (hq6 g2 l2 y1 y2 y3))) ∧
 (((decide (y0 ≠ (0 : Int))) = false) →
 (Need ((g2 = g2) ∧ ((l2.length ≤ l2.length) ∧ ((0 < (List.length [((true, ((-(1 : Int)), (x1_0, ((x1_0, (x1_1, (x1_2, ()))), ([], (false, ())))))) : Bool × Int × Int × (Int × Int × Int × Unit) × List Int × Bool × Unit)])) ∧ ((l2.length + (List.length [((true, ((-(1 : Int)), (x1_0, ((x1_0, (x1_1, (x1_2, ()))), ([], (false, ())))))) : Bool × Int × Int × (Int × Int × Int × Unit) × List Int × Bool × Unit)])) ≤ bigN)))) ∧
 (Need ((-9223372036854775808 ≤ ((((l2.length + (List.length [((true, ((-(1 : Int)), (x1_0, ((x1_0, (x1_1, (x1_2, ()))), ([], (false, ())))))) : Bool × Int × Int × (Int × Int × Int × Unit) × List Int × Bool × Unit)])) : Nat) : Int) - (1 : Int))) ∧ (((((l2.length + (List.length [((true, ((-(1 : Int)), (x1_0, ((x1_0, (x1_1, (x1_2, ()))), ([], (false, ())))))) : Bool × Int × Int × (Int × Int × Int × Unit) × List Int × Bool × Unit)])) : Nat) : Int) - (1 : Int)) ≤ 9223372036854775807)) ∧
 (Q (.tup [(.tv [] (.int .i64) ((((l2.length + (List.length [((true, ((-(1 : Int)), (x1_0, ((x1_0, (x1_1, (x1_2, ()))), ([], (false, ())))))) : Bool × Int × Int × (Int × Int × Int × Unit) × List Int × Bool × Unit)])) : Nat) : Int) - (1 : Int))), (.tv [] (.int .i64) (0 : Int))]) [((0, 0), ⟨⟨qt6, ((some (0, 1)), ((some ((0, 2), ((Nat.succ g2), (0, (l2.length + (List.length [((true, ((-(1 : Int)), (x1_0, ((x1_0, (x1_1, (x1_2, ()))), ([], (false, ())))))) : Bool × Int × Int × (Int × Int × Int × Unit) × List Int × Bool × Unit)])))))), ()))⟩, []⟩), ((0, 1), ⟨⟨qt1, (y1, (y2, (y3, ())))⟩, []⟩), ((0, 2), ⟨⟨(.arr (Nat.succ (Nat.succ g2)) (l2.length + (List.length [((true, ((-(1 : Int)), (x1_0, ((x1_0, (x1_1, (x1_2, ()))), ([], (false, ())))))) : Bool × Int × Int × (Int × Int × Int × Unit) × List Int × Bool × Unit)])) qt2), ((List.take l2.length l2) ++ [((true, ((-(1 : Int)), (x1_0, ((x1_0, (x1_1, (x1_2, ()))), ([], (false, ())))))) : Bool × Int × Int × (Int × Int × Int × Unit) × List Int × Bool × Unit)])⟩, []⟩)])))))))) : EvF PP orc 55 [.op (0, 0) [], .tv [] qt1 (x1_0, (x1_1, (x1_2, ())))] (hq8 g2 l2 o0_0_0 o0_0_1 o0_0_2) Q := vcF_ok (sg := sg) (Eq.mp (by kernel_rfl) h)
theorem vc57 (x1 : Int) (o0_0 : Int) (o0_1 : Int) (o0_2 : Int) (Q : AV → Heap → Prop) (h :
((((decide (x1 < 0)) = true) →
 (Q (.tv [] (.int .i64) (1 : Int)) (hq2 o0_0 o0_1 o0_2))) ∧
 (((decide (x1 < 0)) = false) →
 ((((decide (o0_1 < x1)) = true) →
 (Q (.tv [] (.int .i64) (1 : Int)) (hq2 o0_0 o0_1 o0_2))) ∧
 (((decide (o0_1 < x1)) = false) →
 (Need ((-9223372036854775808 ≤ (o0_1 - x1)) ∧ ((o0_1 - x1) ≤ 9223372036854775807)) ∧
 (Q (.tv [] (.int .i64) (0 : Int)) [((0, 0), ⟨⟨qt1, (o0_0, ((o0_1 - x1), (o0_2, ())))⟩, []⟩)]))))))) : EvF PP orc 57 [.op (0, 0) [], .tv [] (.int .i64) x1] (hq2 o0_0 o0_1 o0_2) Q := vcF_ok (sg := sg) (Eq.mp (by kernel_rfl) h)
theorem vc74 (x1 : Int) (o0_0 : Int) (o0_1 : Int) (o0_2 : Int) (Q : AV → Heap → Prop) (h :
((((decide (x1 < 0)) = true) →
 (Q (.tv [] (.int .i64) (1 : Int)) (hq2 o0_0 o0_1 o0_2))) ∧
 (((decide (x1 < 0)) = false) →
 (Need ((-9223372036854775808 ≤ (o0_0 - o0_1)) ∧ ((o0_0 - o0_1) ≤ 9223372036854775807)) ∧
 ((((decide ((o0_0 - o0_1) < x1)) = true) →
 (Q (.tv [] (.int .i64) (5 : Int)) (hq2 o0_0 o0_1 o0_2))) ∧
 (((decide ((o0_0 - o0_1) < x1)) = false) →
 (Need ((-9223372036854775808 ≤ (o0_1 + x1)) ∧ ((o0_1 + x1) ≤ 9223372036854775807)) ∧
 ((((decide (o0_2 < (o0_1 + x1))) = true) →
 (Q (.tv [] (.int .i64) (0 : Int)) [((0, 0), ⟨⟨qt1, (o0_0, ((o0_1 + x1), ((o0_1 + x1), ())))⟩, []⟩)])) ∧
 (((decide (o0_2 < (o0_1 + x1))) = false) →
 (Q (.tv [] (.int .i64) (0 : Int)) [((0, 0), ⟨⟨qt1, (o0_0, ((o0_1 + x1), (o0_2, ())))⟩, []⟩)])))))))))) : EvF PP orc 74 [.op (0, 0) [], .tv [] (.int .i64) x1] (hq2 o0_0 o0_1 o0_2) Q := vcF_ok (sg := sg) (Eq.mp (by kernel_rfl) h)
theorem vc75 (x0 : List (Int)) (x1 : Int) (Q : AV → Heap → Prop) (h :
(∃ y0 : (Int → Prop),
 (∃ y1 : (Int → Nat),
 ((y0 (0 : Int)) ∧
 (∀ z2 : Int,
 ((y0 z2) →
 ((((decide (z2 < (x0.length : Int))) = true) →
 (Need ((0 ≤ z2) ∧ (z2 < (x0.length : Int))) ∧
 ((((decide ((List.getD x0 z2.toNat (0 : Int)) = x1)) = true) →
 (Q (.tv [] .bool true) [])) ∧
 (((decide ((List.getD x0 z2.toNat (0 : Int)) = x1)) = false) →
 (Need ((-9223372036854775808 ≤ (z2 + 1)) ∧ ((z2 + 1) ≤ 9223372036854775807)) ∧
 ((y0 (z2 + 1)) ∧
  Need ((y1 (z2 + 1)) < (y1 z2)))))))) ∧
 (((decide (z2 < (x0.length : Int))) = false) →
 (Q (.tv [] .bool false) []))))))))) : EvF PP orc 75 [.tv [] qt8 x0, .tv [] (.int .i64) x1] [] Q := vcF_ok (sg := sg) (Eq.mp (by kernel_rfl) h)
end Go.Am.T
