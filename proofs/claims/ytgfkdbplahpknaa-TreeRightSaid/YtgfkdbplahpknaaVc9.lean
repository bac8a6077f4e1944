/-
  A part of the proof of a law: see the text that states it.
-/
import Derived.Test.YtgfkdbplahpknaaHead
set_option linter.all false
namespace Go.Am.T
open Go
set_option maxRecDepth 100000
set_option maxHeartbeats 4000000
theorem vc16 (x1 : Int) (g3 : Nat) (l3 : List (((Int × (Int × ((Int × (Int × (Int × Unit))) × (List (Int) × (Bool × (Bool × Unit)))))) × (Int × Unit)))) (n3 : Nat) (o0_0_2 : Int) (o0_0_0_0 : Int) (o0_0_0_1 : Int) (o0_0_0_2 : Int) (Q : AV → Heap → Prop) (h :
(∃ y0 y1 y2 y3 y4 : Int,
 (∃ y5 : qT2,
 (∃ y6 y7 y8 : Bool,
 (∃ y9 y10 : Nat,
 (∃ y11 y12 y13 y14 : Int,
 (∃ y15 : Nat,
 (∃ y16 : qT0,
 (Need (E 45 [(.op (0, 0) []), (.tv [] (.int .i64) x1)] (hq5 g3 n3 o0_0_2 o0_0_0_0 o0_0_0_1 o0_0_0_2 l3) (.tup [(.tv [] qt12 (y0, (y1, ((y2, (y3, (y4, ()))), (y5, (y6, (y7, ()))))))), (.tv [] .bool y8)]) (hq3 y9 y10 y11 y12 y13 y14 y15 y16)) ∧
 ((((!y8) = true) →
 (Q (.tv [[]] qt8 []) (hq0 y9 y10 y11 y12 y13 y14 y15 y16))) ∧
 (((!y8) = false) →
 (∃ y19 : (qT2 → (Int → (Int → (Int → (Int → (Int → (Int → (Int → (Int → (qT0 → Prop)))))))))),
 (∃ y20 : (qT2 → (Int → (Int → (Int → (Int → (Int → (Int → (Int → (Int → (qT0 → Nat)))))))))),
 (Need (y16.length = y16.length) ∧
 ((y19 [] (0 : Int) (y9 : Int) (y10 : Int) y11 y12 y13 y14 (y15 : Int) y16) ∧
 (∀ z21 : qT2,
 (∀ z22 z23 z24 z25 z26 z27 z28 z29 : Int,
 (∀ z30 : qT0,
 ((y19 z21 z22 z23 z24 z25 z26 z27 z28 z29 z30) →
 ((((decide (z22 < (y5.length : Int))) = true) →
 (Need ((0 ≤ z22) ∧ (z22 < (y5.length : Int))) ∧
 (∃ y33 : qT2,
 (∃ y34 y35 : Nat,
 (∃ y36 y37 y38 y39 : Int,
 (∃ y40 : Nat,
 (∃ y41 : qT0,
 (Need (E 16 [(.op (0, 0) []), (.tv [] (.int .i64) (List.getD y5 z22.toNat (0 : Int)))] (hq0 z23.toNat z24.toNat z25 z26 z27 z28 z29.toNat z30) (.tv [[]] qt8 y33) (hq0 y34 y35 y36 y37 y38 y39 y40 y41)) ∧
 (Need ((z21.length + y33.length) ≤ bigN) ∧
 (Need ((-9223372036854775808 ≤ (z22 + 1)) ∧ ((z22 + 1) ≤ 9223372036854775807)) ∧
 (Need (((y0, (y1, ((y2, (y3, (y4, ()))), (y5, (y6, (y7, ())))))) = (y0, (y1, ((y2, (y3, (y4, ()))), (y5, (y6, (y7, ()))))))) ∧ (y41.length = y41.length)) ∧
 ((y19 (z21 ++ y33) (z22 + 1) (y34 : Int) (y35 : Int) y36 y37 y38 y39 (y40 : Int) y41) ∧
  Need ((y20 (z21 ++ y33) (z22 + 1) (y34 : Int) (y35 : Int) y36 y37 y38 y39 (y40 : Int) y41) < (y20 z21 z22 z23 z24 z25 z26 z27 z28 z29 z30)))))))))))))) ∧
 (((decide (z22 < (y5.length : Int))) = false) →
 (Need ((z21.length + (List.length [x1])) ≤ bigN) ∧
 (Q (.tv [[]] qt8 (z21 ++ [x1])) (hq0 z23.toNat z24.toNat z25 z26 z27 z28 z29.toNat z30)))))))))))))))))))))))) : EvF PP orc 16 [.op (0, 0) [], .tv [] (.int .i64) x1] (hq6 g3 n3 o0_0_2 o0_0_0_0 o0_0_0_1 o0_0_0_2 l3) Q := vcF_ok (sg := sg) (Eq.mp (by kernel_rfl) h)
end Go.Am.T
