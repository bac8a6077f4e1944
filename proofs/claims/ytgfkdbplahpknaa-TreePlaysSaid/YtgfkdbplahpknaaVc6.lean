/-
  A part of the proof of a law: see the text that states it.
-/
import Derived.Test.YtgfkdbplahpknaaHead
set_option linter.all false
namespace Go.Am.T
open Go
set_option maxRecDepth 100000
set_option maxHeartbeats 4000000
theorem vc11 (x0 : Int) (Q : AV → Heap → Prop) (h :
(∃ y0 : Int,
 (Need (E 43 [(.tv [] (.int .i64) x0)] [] (.tv [] (.int .i64) y0) []) ∧
 (Q (.op (1, 0) []) [((1, 0), ⟨⟨qt1, (y0, ((0 : Int), ((0 : Int), ())))⟩, []⟩)])))) : EvF PP orc 11 [.tv [] (.int .i64) x0] [] Q := vcF_ok (sg := sg) (Eq.mp (by kernel_rfl) h)
theorem vc64 (x1 : Int) (o0_0 : Int) (o0_1 : Int) (o0_2 : Int) (Q : AV → Heap → Prop) (h :
((((decide (x1 < 0)) = true) →
 (Q (.tv [] (.int .i64) (1 : Int)) (hq2 o0_0 o0_1 o0_2))) ∧
 (((decide (x1 < 0)) = false) →
 (∃ y2 y3 y4 y5 : Int,
 (Need (E 81 [(.op (0, 0) [])] (hq2 o0_0 o0_1 o0_2) (.tv [] (.int .i64) y2) (hq2 y3 y4 y5)) ∧
 ((((decide (y2 < x1)) = true) →
 (Q (.tv [] (.int .i64) (5 : Int)) (hq2 y3 y4 y5))) ∧
 (((decide (y2 < x1)) = false) →
 (Need ((-9223372036854775808 ≤ (y4 + x1)) ∧ ((y4 + x1) ≤ 9223372036854775807)) ∧
 (Q (.tv [] (.int .i64) (0 : Int)) [((0, 0), ⟨⟨qt1, (y3, ((y4 + x1), ((max y5 (y4 + x1)), ())))⟩, []⟩)]))))))))) : EvF PP orc 64 [.op (0, 0) [], .tv [] (.int .i64) x1] (hq2 o0_0 o0_1 o0_2) Q := vcF_ok (sg := sg) (Eq.mp (by kernel_rfl) h)
theorem vc76 (x1 : Int) (o0_0 : Int) (o0_1 : Int) (o0_2 : Int) (Q : AV → Heap → Prop) (h :
((((decide (x1 < 0)) = true) →
 (Q (.tv [] (.int .i64) (1 : Int)) (hq2 o0_0 o0_1 o0_2))) ∧
 (((decide (x1 < 0)) = false) →
 ((((decide (o0_1 < x1)) = true) →
 (Q (.tv [] (.int .i64) (1 : Int)) (hq2 o0_0 o0_1 o0_2))) ∧
 (((decide (o0_1 < x1)) = false) →
 (Need ((-9223372036854775808 ≤ (o0_1 - x1)) ∧ ((o0_1 - x1) ≤ 9223372036854775807)) ∧
 (Q (.tv [] (.int .i64) (0 : Int)) [((0, 0), ⟨⟨qt1, (o0_0, ((o0_1 - x1), (o0_2, ())))⟩, []⟩)]))))))) : EvF PP orc 76 [.op (0, 0) [], .tv [] (.int .i64) x1] (hq2 o0_0 o0_1 o0_2) Q := vcF_ok (sg := sg) (Eq.mp (by kernel_rfl) h)
theorem vc81 (o0_0 : Int) (o0_1 : Int) (o0_2 : Int) (Q : AV → Heap → Prop) (h :
(Need ((-9223372036854775808 ≤ (o0_0 - o0_1)) ∧ ((o0_0 - o0_1) ≤ 9223372036854775807)) ∧
 (Q (.tv [] (.int .i64) (o0_0 - o0_1)) (hq2 o0_0 o0_1 o0_2)))) : EvF PP orc 81 [.op (0, 0) []] (hq2 o0_0 o0_1 o0_2) Q := vcF_ok (sg := sg) (Eq.mp (by kernel_rfl) h)
theorem vc30 (o0_0 : Int) (o0_1 : Int) (o0_2 : Int) (Q : AV → Heap → Prop) (h :
(Q (.tv [] (.int .i64) o0_1) (hq2 o0_0 o0_1 o0_2))) : EvF PP orc 30 [.op (0, 0) []] (hq2 o0_0 o0_1 o0_2) Q := vcF_ok (sg := sg) (Eq.mp (by kernel_rfl) h)
theorem vc43 (x0 : Int) (Q : AV → Heap → Prop) (h :
(Q (.tv [] (.int .i64) (max (0 : Int) (min x0 (1099511627776 : Int)))) [])) : EvF PP orc 43 [.tv [] (.int .i64) x0] [] Q := vcF_ok (sg := sg) (Eq.mp (by kernel_rfl) h)
theorem vc42 (o0_0 : Int) (o0_1 : Int) (o0_2 : Int) (Q : AV → Heap → Prop) (h :
(Q (.op (1, 0) []) [((1, 0), ⟨⟨qt4, ((some (0, 0)), ((some ((1, 1), (0, (0, 0)))), ((0 : Int), ())))⟩, []⟩), ((1, 1), ⟨⟨(.arr 1 0 qt0), []⟩, []⟩), ((0, 0), ⟨⟨qt1, (o0_0, (o0_1, (o0_2, ())))⟩, []⟩)])) : EvF PP orc 42 [.op (0, 0) []] (hq2 o0_0 o0_1 o0_2) Q := vcF_ok (sg := sg) (Eq.mp (by kernel_rfl) h)
theorem vc44 (x1_0 : Int) (x1_1 : Int) (x1_2_0 : Int) (x1_2_1 : Int) (x1_2_2 : Int) (x1_3 : List (Int)) (x1_4 : Bool) (x1_5 : Bool) (x2 : Int) (g2 : Nat) (l2 : List (((Int × (Int × ((Int × (Int × (Int × Unit))) × (List (Int) × (Bool × (Bool × Unit)))))) × (Int × Unit)))) (n2 : Nat) (o0_2 : Int) (o0_0_0 : Int) (o0_0_1 : Int) (o0_0_2 : Int) (Q : AV → Heap → Prop) (h :
((((decide (x2 < 1)) = true) →
 (Q (.tup [(.tv [] (.int .i64) (0 : Int)), (.tv [] (.int .i64) (1 : Int))]) (hq5 g2 n2 o0_2 o0_0_0 o0_0_1 o0_0_2 l2))) ∧
 (((decide (x2 < 1)) = false) →
 (∃ y2 y3 y4 y5 : Int,
 (Need (E 64 [(.op (0, 0) []), (.tv [] (.int .i64) x2)] (hq2 o0_0_0 o0_0_1 o0_0_2) (.tv [] (.int .i64) y2) (hq2 y3 y4 y5)) ∧
 ((((decide (y2 ≠ (0 : Int))) = true) →
 (Q (.tup [(.tv [] (.int .i64) (0 : Int)), (.tv [] (.int .i64) y2)]) (hq5 g2 n2 o0_2 y3 y4 y5 l2))) ∧
 (((decide (y2 ≠ (0 : Int))) = false) →
 (Need ((g2 = g2) ∧ ((n2 ≤ l2.length) ∧ ((0 < (List.length [((x1_0, (x1_1, ((x1_2_0, (x1_2_1, (x1_2_2, ()))), (x1_3, (x1_4, (x1_5, ())))))), (x2, ()))])) ∧ ((l2.length + (List.length [((x1_0, (x1_1, ((x1_2_0, (x1_2_1, (x1_2_2, ()))), (x1_3, (x1_4, (x1_5, ())))))), (x2, ()))])) ≤ bigN)))) ∧
 (Need ((-9223372036854775808 ≤ (o0_2 + x2)) ∧ ((o0_2 + x2) ≤ 9223372036854775807)) ∧
 (Need ((-9223372036854775808 ≤ ((((n2 + (List.length [((x1_0, (x1_1, ((x1_2_0, (x1_2_1, (x1_2_2, ()))), (x1_3, (x1_4, (x1_5, ())))))), (x2, ()))])) : Nat) : Int) - (1 : Int))) ∧ (((((n2 + (List.length [((x1_0, (x1_1, ((x1_2_0, (x1_2_1, (x1_2_2, ()))), (x1_3, (x1_4, (x1_5, ())))))), (x2, ()))])) : Nat) : Int) - (1 : Int)) ≤ 9223372036854775807)) ∧
 (Q (.tup [(.tv [] (.int .i64) ((((n2 + (List.length [((x1_0, (x1_1, ((x1_2_0, (x1_2_1, (x1_2_2, ()))), (x1_3, (x1_4, (x1_5, ())))))), (x2, ()))])) : Nat) : Int) - (1 : Int))), (.tv [] (.int .i64) (0 : Int))]) [((0, 0), ⟨⟨qt4, ((some (0, 1)), ((some ((0, 2), ((Nat.succ g2), (0, (n2 + (List.length [((x1_0, (x1_1, ((x1_2_0, (x1_2_1, (x1_2_2, ()))), (x1_3, (x1_4, (x1_5, ())))))), (x2, ()))])))))), ((o0_2 + x2), ())))⟩, []⟩), ((0, 1), ⟨⟨qt1, (y3, (y4, (y5, ())))⟩, []⟩), ((0, 2), ⟨⟨(.arr (Nat.succ (Nat.succ g2)) (n2 + (List.length [((x1_0, (x1_1, ((x1_2_0, (x1_2_1, (x1_2_2, ()))), (x1_3, (x1_4, (x1_5, ())))))), (x2, ()))])) qt0), ((List.take n2 l2) ++ [((x1_0, (x1_1, ((x1_2_0, (x1_2_1, (x1_2_2, ()))), (x1_3, (x1_4, (x1_5, ())))))), (x2, ()))])⟩, []⟩)]))))))))))) : EvF PP orc 44 [.op (0, 0) [], .tv [] qt12 (x1_0, (x1_1, ((x1_2_0, (x1_2_1, (x1_2_2, ()))), (x1_3, (x1_4, (x1_5, ())))))), .tv [] (.int .i64) x2] (hq11 g2 n2 o0_2 o0_0_0 o0_0_1 o0_0_2 l2) Q := vcF_ok (sg := sg) (Eq.mp (by kernel_rfl) h)
theorem vc45 (x1 : Int) (g2 : Nat) (l2 : List (((Int × (Int × ((Int × (Int × (Int × Unit))) × (List (Int) × (Bool × (Bool × Unit)))))) × (Int × Unit)))) (n2 : Nat) (o0_2 : Int) (o0_0_0 : Int) (o0_0_1 : Int) (o0_0_2 : Int) (Q : AV → Heap → Prop) (h :
(∃ y0 : Bool,
 (∃ y1 y2 : Nat,
 (∃ y3 y4 y5 y6 : Int,
 (∃ y7 : Nat,
 (∃ y8 : qT0,
 (Need (E 65 [(.op (0, 0) []), (.tv [] (.int .i64) x1)] (hq5 g2 n2 o0_2 o0_0_0 o0_0_1 o0_0_2 l2) (.tv [] .bool y0) (hq4 y1 y2 y3 y4 y5 y6 y7 y8)) ∧
 ((((!y0) = true) →
 (Q (.tup [(.tv [] qt12 ((0 : Int), ((0 : Int), (((0 : Int), ((0 : Int), ((0 : Int), ()))), ([], (false, (false, ()))))))), (.tv [] .bool false)]) (hq4 y1 y2 y3 y4 y5 y6 y7 y8))) ∧
 (((!y0) = false) →
 (Need ((0 ≤ x1) ∧ (x1 < (y2 : Int))) ∧
 (Need (y7 = y1) ∧
 (Need ((0 + x1.toNat) < y8.length) ∧
 (Need (y7 = y1) ∧
 (Need ((0 + x1.toNat) < y8.length) ∧
 (Q (.tup [(.tv [] qt12 (List.getD y8 (0 + x1.toNat) (((0 : Int), ((0 : Int), (((0 : Int), ((0 : Int), ((0 : Int), ()))), ([], (false, (false, ())))))), ((0 : Int), ()))).1), (.tv [] .bool true)]) (hq4 y1 y2 y3 y4 y5 y6 y7 y8)))))))))))))))) : EvF PP orc 45 [.op (0, 0) [], .tv [] (.int .i64) x1] (hq11 g2 n2 o0_2 o0_0_0 o0_0_1 o0_0_2 l2) Q := vcF_ok (sg := sg) (Eq.mp (by kernel_rfl) h)
theorem vc48 (x1 : Int) (x2_0 : Int) (x2_1 : Int) (x2_2_0 : Int) (x2_2_1 : Int) (x2_2_2 : Int) (x2_3 : List (Int)) (x2_4 : Bool) (x2_5 : Bool) (g2 : Nat) (l2 : List (((Int × (Int × ((Int × (Int × (Int × Unit))) × (List (Int) × (Bool × (Bool × Unit)))))) × (Int × Unit)))) (n2 : Nat) (o0_2 : Int) (o0_0_0 : Int) (o0_0_1 : Int) (o0_0_2 : Int) (Q : AV → Heap → Prop) (h :
(∃ y0 : Bool,
 (∃ y1 y2 : Nat,
 (∃ y3 y4 y5 y6 : Int,
 (∃ y7 : Nat,
 (∃ y8 : qT0,
 (Need (E 65 [(.op (0, 0) []), (.tv [] (.int .i64) x1)] (hq5 g2 n2 o0_2 o0_0_0 o0_0_1 o0_0_2 l2) (.tv [] .bool y0) (hq4 y1 y2 y3 y4 y5 y6 y7 y8)) ∧
 ((((!y0) = true) →
 (Q (.tv [] .bool false) (hq4 y1 y2 y3 y4 y5 y6 y7 y8))) ∧
 (((!y0) = false) →
 (Need ((0 ≤ x1) ∧ (x1 < (y2 : Int))) ∧
 (Need (y7 = y1) ∧
 (Need ((0 + x1.toNat) < y8.length) ∧
 (Need (y7 = y1) ∧
 (Need ((0 + x1.toNat) < y8.length) ∧
 (Q (.tv [] .bool true) [((0, 0), ⟨⟨qt4, ((some (0, 1)), ((some ((0, 2), (y1, (0, y2)))), (y3, ())))⟩, []⟩), ((0, 1), ⟨⟨qt1, (y4, (y5, (y6, ())))⟩, []⟩), ((0, 2), ⟨⟨(.arr (Nat.succ y7) y8.length qt0), (List.set y8 (0 + x1.toNat) ((x2_0, (x2_1, ((x2_2_0, (x2_2_1, (x2_2_2, ()))), (x2_3, (x2_4, (x2_5, ())))))), (List.getD y8 (0 + x1.toNat) (((0 : Int), ((0 : Int), (((0 : Int), ((0 : Int), ((0 : Int), ()))), ([], (false, (false, ())))))), ((0 : Int), ()))).2))⟩, []⟩)]))))))))))))))) : EvF PP orc 48 [.op (0, 0) [], .tv [] (.int .i64) x1, .tv [] qt12 (x2_0, (x2_1, ((x2_2_0, (x2_2_1, (x2_2_2, ()))), (x2_3, (x2_4, (x2_5, ()))))))] (hq11 g2 n2 o0_2 o0_0_0 o0_0_1 o0_0_2 l2) Q := vcF_ok (sg := sg) (Eq.mp (by kernel_rfl) h)
theorem vc51 (g2 : Nat) (l2 : List (((Int × (Int × ((Int × (Int × (Int × Unit))) × (List (Int) × (Bool × (Bool × Unit)))))) × (Int × Unit)))) (n2 : Nat) (o0_2 : Int) (o0_0_0 : Int) (o0_0_1 : Int) (o0_0_2 : Int) (Q : AV → Heap → Prop) (h :
(Q (.tv [] (.int .i64) (n2 : Int)) (hq5 g2 n2 o0_2 o0_0_0 o0_0_1 o0_0_2 l2))) : EvF PP orc 51 [.op (0, 0) []] (hq11 g2 n2 o0_2 o0_0_0 o0_0_1 o0_0_2 l2) Q := vcF_ok (sg := sg) (Eq.mp (by kernel_rfl) h)
theorem vc59 (g2 : Nat) (l2 : List (((Int × (Int × ((Int × (Int × (Int × Unit))) × (List (Int) × (Bool × (Bool × Unit)))))) × (Int × Unit)))) (n2 : Nat) (o0_2 : Int) (o0_0_0 : Int) (o0_0_1 : Int) (o0_0_2 : Int) (Q : AV → Heap → Prop) (h :
(Q (.tv [] (.int .i64) o0_2) (hq5 g2 n2 o0_2 o0_0_0 o0_0_1 o0_0_2 l2))) : EvF PP orc 59 [.op (0, 0) []] (hq11 g2 n2 o0_2 o0_0_0 o0_0_1 o0_0_2 l2) Q := vcF_ok (sg := sg) (Eq.mp (by kernel_rfl) h)
theorem vc60 (x1 : Int) (g2 : Nat) (l2 : List (((Int × (Int × ((Int × (Int × (Int × Unit))) × (List (Int) × (Bool × (Bool × Unit)))))) × (Int × Unit)))) (n2 : Nat) (o0_2 : Int) (o0_0_0 : Int) (o0_0_1 : Int) (o0_0_2 : Int) (Q : AV → Heap → Prop) (h :
(Need (((0 : Int) ≤ (max (0 : Int) (min x1 (n2 : Int)))) ∧ (((max (0 : Int) (min x1 (n2 : Int))) ≤ (n2 : Int)) ∧ ((n2 : Int) ≤ (n2 : Int)))) ∧
 (∃ y0 : (Int → (Int → (Int → (Int → (Int → (Int → (Int → (Int → (Int → (qT0 → Prop)))))))))),
 (∃ y1 : (Int → (Int → (Int → (Int → (Int → (Int → (Int → (Int → (Int → (qT0 → Nat)))))))))),
 (Need (l2.length = l2.length) ∧
 ((y0 (0 : Int) (0 : Int) (g2 : Int) (n2 : Int) o0_2 o0_0_0 o0_0_1 o0_0_2 (g2 : Int) l2) ∧
 (∀ z2 z3 z4 z5 z6 z7 z8 z9 z10 : Int,
 (∀ z11 : qT0,
 ((y0 z2 z3 z4 z5 z6 z7 z8 z9 z10 z11) →
 ((((decide (z3 < ((((Int.toNat (n2 : Int)) - (Int.toNat (max (0 : Int) (min x1 (n2 : Int))))) : Nat) : Int))) = true) →
 (Need ((0 ≤ z3) ∧ (z3 < ((((Int.toNat (n2 : Int)) - (Int.toNat (max (0 : Int) (min x1 (n2 : Int))))) : Nat) : Int))) ∧
 (Need (z10.toNat = g2) ∧
 (Need (((0 + (Int.toNat (max (0 : Int) (min x1 (n2 : Int))))) + z3.toNat) < z11.length) ∧
 (Need ((-9223372036854775808 ≤ (z2 + (List.getD z11 ((0 + (Int.toNat (max (0 : Int) (min x1 (n2 : Int))))) + z3.toNat) (((0 : Int), ((0 : Int), (((0 : Int), ((0 : Int), ((0 : Int), ()))), ([], (false, (false, ())))))), ((0 : Int), ()))).2.1)) ∧ ((z2 + (List.getD z11 ((0 + (Int.toNat (max (0 : Int) (min x1 (n2 : Int))))) + z3.toNat) (((0 : Int), ((0 : Int), (((0 : Int), ((0 : Int), ((0 : Int), ()))), ([], (false, (false, ())))))), ((0 : Int), ()))).2.1) ≤ 9223372036854775807)) ∧
 (Need ((-9223372036854775808 ≤ (z3 + 1)) ∧ ((z3 + 1) ≤ 9223372036854775807)) ∧
 (Need (z11.length = z11.length) ∧
 ((y0 (z2 + (List.getD z11 ((0 + (Int.toNat (max (0 : Int) (min x1 (n2 : Int))))) + z3.toNat) (((0 : Int), ((0 : Int), (((0 : Int), ((0 : Int), ((0 : Int), ()))), ([], (false, (false, ())))))), ((0 : Int), ()))).2.1) (z3 + 1) (z4.toNat : Int) (z5.toNat : Int) z6 z7 z8 z9 (z10.toNat : Int) z11) ∧
  Need ((y1 (z2 + (List.getD z11 ((0 + (Int.toNat (max (0 : Int) (min x1 (n2 : Int))))) + z3.toNat) (((0 : Int), ((0 : Int), (((0 : Int), ((0 : Int), ((0 : Int), ()))), ([], (false, (false, ())))))), ((0 : Int), ()))).2.1) (z3 + 1) (z4.toNat : Int) (z5.toNat : Int) z6 z7 z8 z9 (z10.toNat : Int) z11) < (y1 z2 z3 z4 z5 z6 z7 z8 z9 z10 z11)))))))))) ∧
 (((decide (z3 < ((((Int.toNat (n2 : Int)) - (Int.toNat (max (0 : Int) (min x1 (n2 : Int))))) : Nat) : Int))) = false) →
 (Need (((0 : Int) ≤ (max (0 : Int) (min x1 (n2 : Int)))) ∧ (((max (0 : Int) (min x1 (n2 : Int))) ≤ (z5.toNat : Int)) ∧ ((z5.toNat : Int) ≤ (z5.toNat : Int)))) ∧
 (Need ((z4.toNat = z10.toNat) ∧ (((0 + (Int.toNat (max (0 : Int) (min x1 (n2 : Int))))) + ((Int.toNat (z5.toNat : Int)) - (Int.toNat (max (0 : Int) (min x1 (n2 : Int)))))) ≤ z11.length)) ∧
 (Need (((0 : Int) ≤ (0 : Int)) ∧ (((0 : Int) ≤ (max (0 : Int) (min x1 (n2 : Int)))) ∧ ((max (0 : Int) (min x1 (n2 : Int))) ≤ (z5.toNat : Int)))) ∧
 (Need ((-9223372036854775808 ≤ (z6 - z2)) ∧ ((z6 - z2) ≤ 9223372036854775807)) ∧
 (∃ y15 y16 y17 y18 : Int,
 (Need (E 76 [(.op (0, 0) []), (.tv [] (.int .i64) z2)] (hq2 z7 z8 z9) (.tv [] (.int .i64) y15) (hq2 y16 y17 y18)) ∧
 (Q (.tv [] (.int .i64) z2) [((0, 0), ⟨⟨qt4, ((some (0, 1)), ((some ((0, 2), (z4.toNat, (0, ((Int.toNat (max (0 : Int) (min x1 (n2 : Int)))) - 0))))), ((z6 - z2), ())))⟩, []⟩), ((0, 1), ⟨⟨qt1, (y16, (y17, (y18, ())))⟩, []⟩), ((0, 2), ⟨⟨(.arr (Nat.succ z10.toNat) z11.length qt0), (((List.take (0 + (Int.toNat (max (0 : Int) (min x1 (n2 : Int))))) z11) ++ (List.replicate ((Int.toNat (z5.toNat : Int)) - (Int.toNat (max (0 : Int) (min x1 (n2 : Int))))) (((0 : Int), ((0 : Int), (((0 : Int), ((0 : Int), ((0 : Int), ()))), ([], (false, (false, ())))))), ((0 : Int), ())))) ++ (List.drop ((0 + (Int.toNat (max (0 : Int) (min x1 (n2 : Int))))) + ((Int.toNat (z5.toNat : Int)) - (Int.toNat (max (0 : Int) (min x1 (n2 : Int)))))) z11))⟩, []⟩)])))))))))))))))))) : EvF PP orc 60 [.op (0, 0) [], .tv [] (.int .i64) x1] (hq11 g2 n2 o0_2 o0_0_0 o0_0_1 o0_0_2 l2) Q := vcF_ok (sg := sg) (Eq.mp (by kernel_rfl) h)
theorem vc65 (x1 : Int) (g2 : Nat) (l2 : List (((Int × (Int × ((Int × (Int × (Int × Unit))) × (List (Int) × (Bool × (Bool × Unit)))))) × (Int × Unit)))) (n2 : Nat) (o0_2 : Int) (o0_0_0 : Int) (o0_0_1 : Int) (o0_0_2 : Int) (Q : AV → Heap → Prop) (h :
((((decide (0 ≤ x1)) = true) →
 (Q (.tv [] .bool (decide (x1 < (n2 : Int)))) (hq5 g2 n2 o0_2 o0_0_0 o0_0_1 o0_0_2 l2))) ∧
 (((decide (0 ≤ x1)) = false) →
 (Q (.tv [] .bool false) (hq5 g2 n2 o0_2 o0_0_0 o0_0_1 o0_0_2 l2))))) : EvF PP orc 65 [.op (0, 0) [], .tv [] (.int .i64) x1] (hq11 g2 n2 o0_2 o0_0_0 o0_0_1 o0_0_2 l2) Q := vcF_ok (sg := sg) (Eq.mp (by kernel_rfl) h)
end Go.Am.T
