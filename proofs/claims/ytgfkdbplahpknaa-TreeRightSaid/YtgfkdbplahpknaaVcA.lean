/-
  A part of the proof of a law: see the text that states it.
-/
import Derived.Test.YtgfkdbplahpknaaHead
set_option linter.all false
namespace Go.Am.T
open Go
set_option maxRecDepth 100000
set_option maxHeartbeats 4000000
theorem vc34 (g2 : Nat) (l2 : List ((Bool × (Int × (Int × ((Int × (Int × (Int × Unit))) × (List (Int) × (Bool × Unit)))))))) (o0_0_0 : Int) (o0_0_1 : Int) (o0_0_2 : Int) (Q : AV → Heap → Prop) (h :
(∃ y0 : (Int → (Int → (Int → (Int → (Int → (Int → (Int → (Int → (qT1 → Prop))))))))),
 (∃ y1 : (Int → (Int → (Int → (Int → (Int → (Int → (Int → (Int → (qT1 → Nat))))))))),
 (Need (l2.length = l2.length) ∧
 ((y0 (0 : Int) (0 : Int) (g2 : Int) (l2.length : Int) o0_0_0 o0_0_1 o0_0_2 (g2 : Int) l2) ∧
 (∀ z2 z3 z4 z5 z6 z7 z8 z9 : Int,
 (∀ z10 : qT1,
 ((y0 z2 z3 z4 z5 z6 z7 z8 z9 z10) →
 ((((decide (z3 < (z5.toNat : Int))) = true) →
 (Need ((-9223372036854775808 ≤ (z2 + 1)) ∧ ((z2 + 1) ≤ 9223372036854775807)) ∧
 (Need ((0 ≤ z3) ∧ (z3 < (z5.toNat : Int))) ∧
 (Need (z9.toNat = z4.toNat) ∧
 (Need ((0 + z3.toNat) < z10.length) ∧
 (Need (z9.toNat = z4.toNat) ∧
 (Need ((0 + z3.toNat) < z10.length) ∧
 (Need ((-9223372036854775808 ≤ ((z2 + 1) + ((List.length (List.getD z10 (0 + z3.toNat) (false, ((0 : Int), ((0 : Int), (((0 : Int), ((0 : Int), ((0 : Int), ()))), ([], (false, ()))))))).2.2.2.2.1) : Int))) ∧ (((z2 + 1) + ((List.length (List.getD z10 (0 + z3.toNat) (false, ((0 : Int), ((0 : Int), (((0 : Int), ((0 : Int), ((0 : Int), ()))), ([], (false, ()))))))).2.2.2.2.1) : Int)) ≤ 9223372036854775807)) ∧
 (Need ((-9223372036854775808 ≤ (z3 + 1)) ∧ ((z3 + 1) ≤ 9223372036854775807)) ∧
 (Need (z10.length = z10.length) ∧
 ((y0 ((z2 + 1) + ((List.length (List.getD z10 (0 + z3.toNat) (false, ((0 : Int), ((0 : Int), (((0 : Int), ((0 : Int), ((0 : Int), ()))), ([], (false, ()))))))).2.2.2.2.1) : Int)) (z3 + 1) (z4.toNat : Int) (z5.toNat : Int) z6 z7 z8 (z9.toNat : Int) z10) ∧
  Need ((y1 ((z2 + 1) + ((List.length (List.getD z10 (0 + z3.toNat) (false, ((0 : Int), ((0 : Int), (((0 : Int), ((0 : Int), ((0 : Int), ()))), ([], (false, ()))))))).2.2.2.2.1) : Int)) (z3 + 1) (z4.toNat : Int) (z5.toNat : Int) z6 z7 z8 (z9.toNat : Int) z10) < (y1 z2 z3 z4 z5 z6 z7 z8 z9 z10))))))))))))) ∧
 (((decide (z3 < (z5.toNat : Int))) = false) →
 (Q (.tv [] (.int .i64) z2) (hq4 z4.toNat z5.toNat z6 z7 z8 z9.toNat z10)))))))))))) : EvF PP orc 34 [.op (0, 0) []] (hq9 g2 l2 o0_0_0 o0_0_1 o0_0_2) Q := vcF_ok (sg := sg) (Eq.mp (by kernel_rfl) h)
theorem vc55 (x1_0 : Int) (x1_1 : Int) (x1_2 : Int) (g2 : Nat) (l2 : List ((Bool × (Int × (Int × ((Int × (Int × (Int × Unit))) × (List (Int) × (Bool × Unit)))))))) (o0_0_0 : Int) (o0_0_1 : Int) (o0_0_2 : Int) (Q : AV → Heap → Prop) (h :
(∃ y0 y1 y2 y3 : Int,
 (Need (E 74 [(.op (0, 0) []), (.tv [] (.int .i64) (1 : Int))] (hq1 o0_0_0 o0_0_1 o0_0_2) (.tv [] (.int .i64) y0) (hq1 y1 y2 y3)) ∧
 ((((decide (y0 ≠ (0 : Int))) = true) →
 (Q (.tup [(.tv [] (.int .i64) (0 : Int)), (.tv [] (.int .i64) y0)]) (hq7 g2 l2 y1 y2 y3))) ∧
 (((decide (y0 ≠ (0 : Int))) = false) →
 (Need ((g2 = g2) ∧ ((l2.length ≤ l2.length) ∧ ((0 < (List.length [((true, ((-(1 : Int)), (x1_0, ((x1_0, (x1_1, (x1_2, ()))), ([], (false, ())))))) : Bool × Int × Int × (Int × Int × Int × Unit) × List Int × Bool × Unit)])) ∧ ((l2.length + (List.length [((true, ((-(1 : Int)), (x1_0, ((x1_0, (x1_1, (x1_2, ()))), ([], (false, ())))))) : Bool × Int × Int × (Int × Int × Int × Unit) × List Int × Bool × Unit)])) ≤ bigN)))) ∧
 (Need ((-9223372036854775808 ≤ ((((l2.length + (List.length [((true, ((-(1 : Int)), (x1_0, ((x1_0, (x1_1, (x1_2, ()))), ([], (false, ())))))) : Bool × Int × Int × (Int × Int × Int × Unit) × List Int × Bool × Unit)])) : Nat) : Int) - (1 : Int))) ∧ (((((l2.length + (List.length [((true, ((-(1 : Int)), (x1_0, ((x1_0, (x1_1, (x1_2, ()))), ([], (false, ())))))) : Bool × Int × Int × (Int × Int × Int × Unit) × List Int × Bool × Unit)])) : Nat) : Int) - (1 : Int)) ≤ 9223372036854775807)) ∧
 (Q (.tup [(.tv [] (.int .i64) ((((l2.length + (List.length [((true, ((-(1 : Int)), (x1_0, ((x1_0, (x1_1, (x1_2, ()))), ([], (false, ())))))) : Bool × Int × Int × (Int × Int × Int × Unit) × List Int × Bool × Unit)])) : Nat) : Int) - (1 : Int))), (.tv [] (.int .i64) (0 : Int))]) [((0, 0), ⟨⟨qt7, ((some (0, 1)), ((some ((0, 2), ((Nat.succ g2), (0, (l2.length + (List.length [((true, ((-(1 : Int)), (x1_0, ((x1_0, (x1_1, (x1_2, ()))), ([], (false, ())))))) : Bool × Int × Int × (Int × Int × Int × Unit) × List Int × Bool × Unit)])))))), ()))⟩, []⟩), ((0, 1), ⟨⟨qt1, (y1, (y2, (y3, ())))⟩, []⟩), ((0, 2), ⟨⟨(.arr (Nat.succ (Nat.succ g2)) (l2.length + (List.length [((true, ((-(1 : Int)), (x1_0, ((x1_0, (x1_1, (x1_2, ()))), ([], (false, ())))))) : Bool × Int × Int × (Int × Int × Int × Unit) × List Int × Bool × Unit)])) qt2), ((List.take l2.length l2) ++ [((true, ((-(1 : Int)), (x1_0, ((x1_0, (x1_1, (x1_2, ()))), ([], (false, ())))))) : Bool × Int × Int × (Int × Int × Int × Unit) × List Int × Bool × Unit)])⟩, []⟩)])))))))) : EvF PP orc 55 [.op (0, 0) [], .tv [] qt1 (x1_0, (x1_1, (x1_2, ())))] (hq9 g2 l2 o0_0_0 o0_0_1 o0_0_2) Q := vcF_ok (sg := sg) (Eq.mp (by kernel_rfl) h)
theorem vc57 (x1 : Int) (o0_0 : Int) (o0_1 : Int) (o0_2 : Int) (Q : AV → Heap → Prop) (h :
((((decide (x1 < 0)) = true) →
 (Q (.tv [] (.int .i64) (1 : Int)) (hq1 o0_0 o0_1 o0_2))) ∧
 (((decide (x1 < 0)) = false) →
 ((((decide (o0_1 < x1)) = true) →
 (Q (.tv [] (.int .i64) (1 : Int)) (hq1 o0_0 o0_1 o0_2))) ∧
 (((decide (o0_1 < x1)) = false) →
 (Need ((-9223372036854775808 ≤ (o0_1 - x1)) ∧ ((o0_1 - x1) ≤ 9223372036854775807)) ∧
 (Q (.tv [] (.int .i64) (0 : Int)) [((0, 0), ⟨⟨qt1, (o0_0, ((o0_1 - x1), (o0_2, ())))⟩, []⟩)]))))))) : EvF PP orc 57 [.op (0, 0) [], .tv [] (.int .i64) x1] (hq1 o0_0 o0_1 o0_2) Q := vcF_ok (sg := sg) (Eq.mp (by kernel_rfl) h)
theorem vc74 (x1 : Int) (o0_0 : Int) (o0_1 : Int) (o0_2 : Int) (Q : AV → Heap → Prop) (h :
((((decide (x1 < 0)) = true) →
 (Q (.tv [] (.int .i64) (1 : Int)) (hq1 o0_0 o0_1 o0_2))) ∧
 (((decide (x1 < 0)) = false) →
 (Need ((-9223372036854775808 ≤ (o0_0 - o0_1)) ∧ ((o0_0 - o0_1) ≤ 9223372036854775807)) ∧
 ((((decide ((o0_0 - o0_1) < x1)) = true) →
 (Q (.tv [] (.int .i64) (5 : Int)) (hq1 o0_0 o0_1 o0_2))) ∧
 (((decide ((o0_0 - o0_1) < x1)) = false) →
 (Need ((-9223372036854775808 ≤ (o0_1 + x1)) ∧ ((o0_1 + x1) ≤ 9223372036854775807)) ∧
 ((((decide (o0_2 < (o0_1 + x1))) = true) →
 (Q (.tv [] (.int .i64) (0 : Int)) [((0, 0), ⟨⟨qt1, (o0_0, ((o0_1 + x1), ((o0_1 + x1), ())))⟩, []⟩)])) ∧
 (((decide (o0_2 < (o0_1 + x1))) = false) →
 (Q (.tv [] (.int .i64) (0 : Int)) [((0, 0), ⟨⟨qt1, (o0_0, ((o0_1 + x1), (o0_2, ())))⟩, []⟩)])))))))))) : EvF PP orc 74 [.op (0, 0) [], .tv [] (.int .i64) x1] (hq1 o0_0 o0_1 o0_2) Q := vcF_ok (sg := sg) (Eq.mp (by kernel_rfl) h)
theorem vc75 (x0 : List (Int)) (x1 : Int) (Q : AV → Heap → Prop) (h :
(∃ y0 : (Int → Prop),
 (∃ y1 : (Int → Nat),
 ((y0 (0 : Int)) ∧
 (∀ z2 : Int,
 ((y0 z2) →
 ((((decide (z2 < (x0.length : Int))) = true) →
 (Need ((0 ≤ z2) ∧ (z2 < (x0.length : Int))) ∧
 ((((decide ((List.getD x0 z2.toNat (0 : Int)) = x1)) = true) →
 (Q (.tv [] .bool true) [])) ∧
 (((decide ((List.getD x0 z2.toNat (0 : Int)) = x1)) = false) →
 (Need ((-9223372036854775808 ≤ (z2 + 1)) ∧ ((z2 + 1) ≤ 9223372036854775807)) ∧
 ((y0 (z2 + 1)) ∧
  Need ((y1 (z2 + 1)) < (y1 z2)))))))) ∧
 (((decide (z2 < (x0.length : Int))) = false) →
 (Q (.tv [] .bool false) []))))))))) : EvF PP orc 75 [.tv [] qt8 x0, .tv [] (.int .i64) x1] [] Q := vcF_ok (sg := sg) (Eq.mp (by kernel_rfl) h)
end Go.Am.T
