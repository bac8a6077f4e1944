/-
  A part of the proof of a law: see the text that states it.
-/
import Derived.Test.YtgfkdbplahpknaaHead
set_option linter.all false
namespace Go.Am.T
open Go
set_option maxRecDepth 100000
set_option maxHeartbeats 4000000
theorem vc16 (x1 : Int) (g3 : Nat) (l3 : List (((Int × (Int × ((Int × (Int × (Int × Unit))) × (List (Int) × (Bool × (Bool × Unit)))))) × (Int × Unit)))) (n3 : Nat) (o0_0_2 : Int) (o0_0_0_0 : Int) (o0_0_0_1 : Int) (o0_0_0_2 : Int) (Q : AV → Heap → Prop) (h :
(∃ y0 y1 y2 y3 y4 : Int,
 (∃ y5 : qT2,
 (∃ y6 y7 y8 : Bool,
 (∃ y9 y10 : Nat,
 (∃ y11 y12 y13 y14 : Int,
 (∃ y15 : Nat,
 (∃ y16 : qT0,
 (Need (E 45 [(.op (0, 0) []), (.tv [] (.int .i64) x1)] (hq5 g3 n3 o0_0_2 o0_0_0_0 o0_0_0_1 o0_0_0_2 l3) (.tup [(.tv [] qt12 (y0, (y1, ((y2, (y3, (y4, ()))), (y5, (y6, (y7, ()))))))), (.tv [] .bool y8)]) (hq4 y9 y10 y11 y12 y13 y14 y15 y16)) ∧
 ((((!y8) = true) →
 (Q (.tv [[]] qt8 []) (hq0 y9 y10 y11 y12 y13 y14 y15 y16))) ∧
 (((!y8) = false) →
 (∃ y19 : (qT2 → (Int → (Int → (Int → (Int → (Int → (Int → (Int → (Int → (qT0 → Prop)))))))))),
 (∃ y20 : (qT2 → (Int → (Int → (Int → (Int → (Int → (Int → (Int → (Int → (qT0 → Nat)))))))))),
 (Need (y16.length = y16.length) ∧
 ((y19 [] (0 : Int) (y9 : Int) (y10 : Int) y11 y12 y13 y14 (y15 : Int) y16) ∧
 (∀ z21 : qT2,
 (∀ z22 z23 z24 z25 z26 z27 z28 z29 : Int,
 (∀ z30 : qT0,
 ((y19 z21 z22 z23 z24 z25 z26 z27 z28 z29 z30) →
 ((((decide (z22 < (y5.length : Int))) = true) →
 (Need ((0 ≤ z22) ∧ (z22 < (y5.length : Int))) ∧
 (∃ y33 : qT2,
 (∃ y34 y35 : Nat,
 (∃ y36 y37 y38 y39 : Int,
 (∃ y40 : Nat,
 (∃ y41 : qT0,
 (Need (E 16 [(.op (0, 0) []), (.tv [] (.int .i64) (List.getD y5 z22.toNat (0 : Int)))] (hq0 z23.toNat z24.toNat z25 z26 z27 z28 z29.toNat z30) (.tv [[]] qt8 y33) (hq0 y34 y35 y36 y37 y38 y39 y40 y41)) ∧
 (Need ((z21.length + y33.length) ≤ bigN) ∧
 (Need ((-9223372036854775808 ≤ (z22 + 1)) ∧ ((z22 + 1) ≤ 9223372036854775807)) ∧
 (Need (((y0, (y1, ((y2, (y3, (y4, ()))), (y5, (y6, (y7, ())))))) = (y0, (y1, ((y2, (y3, (y4, ()))), (y5, (y6, (y7, ()))))))) ∧ (y41.length = y41.length)) ∧
 ((y19 (z21 ++ y33) (z22 + 1) (y34 : Int) (y35 : Int) y36 y37 y38 y39 (y40 : Int) y41) ∧
  Need ((y20 (z21 ++ y33) (z22 + 1) (y34 : Int) (y35 : Int) y36 y37 y38 y39 (y40 : Int) y41) < (y20 z21 z22 z23 z24 z25 z26 z27 z28 z29 z30)))))))))))))) ∧
 (((decide (z22 < (y5.length : Int))) = false) →
 (Need ((z21.length + (List.length [x1])) ≤ bigN) ∧
 (Q (.tv [[]] qt8 (z21 ++ [x1])) (hq0 z23.toNat z24.toNat z25 z26 z27 z28 z29.toNat z30)))))))))))))))))))))))) : EvF PP orc 16 [.op (0, 0) [], .tv [] (.int .i64) x1] (hq7 g3 n3 o0_0_2 o0_0_0_0 o0_0_0_1 o0_0_0_2 l3) Q := vcF_ok (sg := sg) (Eq.mp (by kernel_rfl) h)
theorem vc32 (x1 : Int) (g3 : Nat) (l3 : List (((Int × (Int × ((Int × (Int × (Int × Unit))) × (List (Int) × (Bool × (Bool × Unit)))))) × (Int × Unit)))) (n3 : Nat) (o0_0_2 : Int) (o0_0_0_0 : Int) (o0_0_0_1 : Int) (o0_0_0_2 : Int) (Q : AV → Heap → Prop) (h :
(∃ y0 : qT2,
 (∃ y1 y2 : Nat,
 (∃ y3 y4 y5 y6 : Int,
 (∃ y7 : Nat,
 (∃ y8 : qT0,
 (Need (E 16 [(.op (0, 0) []), (.tv [] (.int .i64) x1)] (hq12 g3 n3 o0_0_2 o0_0_0_0 o0_0_0_1 o0_0_0_2 l3) (.tv [[]] qt8 y0) (hq0 y1 y2 y3 y4 y5 y6 y7 y8)) ∧
 (∃ y9 : (qT10 → (Int → (Int → (Int → (Int → (Int → (Int → (Int → (Int → (qT0 → Prop)))))))))),
 (∃ y10 : (qT10 → (Int → (Int → (Int → (Int → (Int → (Int → (Int → (Int → (qT0 → Nat)))))))))),
 (Need (y8.length = y8.length) ∧
 ((y9 [] (0 : Int) (y1 : Int) (y2 : Int) y3 y4 y5 y6 (y7 : Int) y8) ∧
 (∀ z11 : qT10,
 (∀ z12 z13 z14 z15 z16 z17 z18 z19 : Int,
 (∀ z20 : qT0,
 ((y9 z11 z12 z13 z14 z15 z16 z17 z18 z19 z20) →
 ((((decide (z12 < (y0.length : Int))) = true) →
 (Need ((0 ≤ z12) ∧ (z12 < (y0.length : Int))) ∧
 (∃ y23 : Bool,
 (∃ y24 y25 : Nat,
 (∃ y26 y27 y28 y29 : Int,
 (∃ y30 : Nat,
 (∃ y31 : qT0,
 (Need (E 36 [(.op (0, 0) []), (.tv [] (.int .i64) (List.getD y0 z12.toNat (0 : Int)))] (hq0 z13.toNat z14.toNat z15 z16 z17 z18 z19.toNat z20) (.tv [] .bool y23) (hq0 y24 y25 y26 y27 y28 y29 y30 y31)) ∧
 (((y23 = true) →
 (∃ y33 y34 y35 : Int,
 (∃ y36 y37 : Nat,
 (∃ y38 y39 y40 y41 : Int,
 (∃ y42 : Nat,
 (∃ y43 : qT0,
 (Need (E 17 [(.op (0, 0) []), (.tv [] (.int .i64) (List.getD y0 z12.toNat (0 : Int)))] (hq0 y24 y25 y26 y27 y28 y29 y30 y31) (.tv [] qt1 (y33, (y34, (y35, ())))) (hq0 y36 y37 y38 y39 y40 y41 y42 y43)) ∧
 (Need ((z11.length + (List.length [(y33, (y34, (y35, ())))])) ≤ bigN) ∧
 (Need ((-9223372036854775808 ≤ (z12 + 1)) ∧ ((z12 + 1) ≤ 9223372036854775807)) ∧
 (Need (y43.length = y43.length) ∧
 ((y9 (z11 ++ [(y33, (y34, (y35, ())))]) (z12 + 1) (y36 : Int) (y37 : Int) y38 y39 y40 y41 (y42 : Int) y43) ∧
   Need ((y10 (z11 ++ [(y33, (y34, (y35, ())))]) (z12 + 1) (y36 : Int) (y37 : Int) y38 y39 y40 y41 (y42 : Int) y43) < (y10 z11 z12 z13 z14 z15 z16 z17 z18 z19 z20))))))))))))) ∧
 ((y23 = false) →
 (Need ((-9223372036854775808 ≤ (z12 + 1)) ∧ ((z12 + 1) ≤ 9223372036854775807)) ∧
 (Need (y31.length = y31.length) ∧
 ((y9 z11 (z12 + 1) (y24 : Int) (y25 : Int) y26 y27 y28 y29 (y30 : Int) y31) ∧
  Need ((y10 z11 (z12 + 1) (y24 : Int) (y25 : Int) y26 y27 y28 y29 (y30 : Int) y31) < (y10 z11 z12 z13 z14 z15 z16 z17 z18 z19 z20))))))))))))))) ∧
 (((decide (z12 < (y0.length : Int))) = false) →
 (Q (.tv [[]] (.slice qt1) z11) (hq0 z13.toNat z14.toNat z15 z16 z17 z18 z19.toNat z20))))))))))))))))))) : EvF PP orc 32 [.op (0, 0) [], .tv [] (.int .i64) x1] (hq7 g3 n3 o0_0_2 o0_0_0_0 o0_0_0_1 o0_0_0_2 l3) Q := vcF_ok (sg := sg) (Eq.mp (by kernel_rfl) h)
end Go.Am.T
