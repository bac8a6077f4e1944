/-
  A part of the proof of a law: see the text that states it.
-/
import Derived.Test.YtgfkdbplahpknaaHead
set_option linter.all false
namespace Go.Am.T
open Go
set_option maxRecDepth 100000
set_option maxHeartbeats 4000000
theorem vc16 (x1 : Int) (g3 : Nat) (l3 : List (((Int × (Int × ((Int × (Int × (Int × Unit))) × (List (Int) × (Bool × (Bool × Unit)))))) × (Int × Unit)))) (n3 : Nat) (o0_0_2 : Int) (o0_0_0_0 : Int) (o0_0_0_1 : Int) (o0_0_0_2 : Int) (Q : AV → Heap → Prop) (h :
(∃ y0 : Int,
 (∃ y1 : Int,
 (∃ y2 : Int,
 (∃ y3 : Int,
 (∃ y4 : Int,
 (∃ y5 : qT2,
 (∃ y6 : Bool,
 (∃ y7 : Bool,
 (∃ y8 : Bool,
 (∃ y9 : Nat,
 (∃ y10 : Nat,
 (∃ y11 : Int,
 (∃ y12 : Int,
 (∃ y13 : Int,
 (∃ y14 : Int,
 (∃ y15 : Nat,
 (∃ y16 : qT0,
 (Need (E 45 [(.op (0, 0) []), (.tv [] (.int .i64) x1)] [((0, 0), ⟨⟨qt3, ((Option.some (0, 1)), ((Option.some ((0, 2), (g3, (0, n3)))), (o0_0_2, ())))⟩, []⟩), ((0, 1), ⟨⟨qt1, (o0_0_0_0, (o0_0_0_1, (o0_0_0_2, ())))⟩, []⟩), ((0, 2), ⟨⟨(.arr (Nat.succ g3) (List.length l3) qt0), l3⟩, []⟩)] (.tup [(.tv [] qt10 (y0, (y1, ((y2, (y3, (y4, ()))), (y5, (y6, (y7, ()))))))), (.tv [] .bool y8)]) [((0, 0), ⟨⟨qt3, ((Option.some (0, 1)), ((Option.some ((0, 2), (y9, (0, y10)))), (y11, ())))⟩, []⟩), ((0, 1), ⟨⟨qt1, (y12, (y13, (y14, ())))⟩, []⟩), ((0, 2), ⟨⟨(.arr (Nat.succ y15) (List.length y16) qt0), y16⟩, []⟩)]) ∧
 ((((!y8) = true) →
  (Q (.tv [[]] qt12 []) [((0, 0), ⟨⟨qt9, ((Option.some (0, 1)), ())⟩, []⟩), ((0, 1), ⟨⟨qt3, ((Option.some (0, 2)), ((Option.some ((0, 3), (y9, (0, y10)))), (y11, ())))⟩, []⟩), ((0, 2), ⟨⟨qt1, (y12, (y13, (y14, ())))⟩, []⟩), ((0, 3), ⟨⟨(.arr (Nat.succ y15) (List.length y16) qt0), y16⟩, []⟩)])) ∧
 (((!y8) = false) →
 (∃ y19 : (qT2 → (Int → (Int → (Int → (Int → (Int → (Int → (Int → (Int → (qT0 → Prop)))))))))),
 (∃ y20 : (qT2 → (Int → (Int → (Int → (Int → (Int → (Int → (Int → (Int → (qT0 → Nat)))))))))),
 (Need ((List.length y16) = (List.length y16)) ∧
 ((y19 [] (0 : Int) (y9 : Int) (y10 : Int) y11 y12 y13 y14 (y15 : Int) y16) ∧
 (∀ z21 : qT2,
 (∀ z22 : Int,
 (∀ z23 : Int,
 (∀ z24 : Int,
 (∀ z25 : Int,
 (∀ z26 : Int,
 (∀ z27 : Int,
 (∀ z28 : Int,
 (∀ z29 : Int,
 (∀ z30 : qT0,
 ((y19 z21 z22 z23 z24 z25 z26 z27 z28 z29 z30) →
 ((((decide (z22 < ((List.length y5) : Int))) = true) →
  (Need (((0 : Int) ≤ z22) ∧ (z22 < ((List.length y5) : Int))) ∧
  (∃ y33 : qT2,
  (∃ y34 : Nat,
  (∃ y35 : Nat,
  (∃ y36 : Int,
  (∃ y37 : Int,
  (∃ y38 : Int,
  (∃ y39 : Int,
  (∃ y40 : Nat,
  (∃ y41 : qT0,
  (Need (E 16 [(.op (0, 0) []), (.tv [] (.int .i64) (List.getD y5 (Int.toNat z22) (0 : Int)))] [((0, 0), ⟨⟨qt9, ((Option.some (0, 1)), ())⟩, []⟩), ((0, 1), ⟨⟨qt3, ((Option.some (0, 2)), ((Option.some ((0, 3), ((Int.toNat z23), (0, (Int.toNat z24))))), (z25, ())))⟩, []⟩), ((0, 2), ⟨⟨qt1, (z26, (z27, (z28, ())))⟩, []⟩), ((0, 3), ⟨⟨(.arr (Nat.succ (Int.toNat z29)) (List.length z30) qt0), z30⟩, []⟩)] (.tv [[]] qt12 y33) [((0, 0), ⟨⟨qt9, ((Option.some (0, 1)), ())⟩, []⟩), ((0, 1), ⟨⟨qt3, ((Option.some (0, 2)), ((Option.some ((0, 3), (y34, (0, y35)))), (y36, ())))⟩, []⟩), ((0, 2), ⟨⟨qt1, (y37, (y38, (y39, ())))⟩, []⟩), ((0, 3), ⟨⟨(.arr (Nat.succ y40) (List.length y41) qt0), y41⟩, []⟩)]) ∧
  (Need (((List.length z21) + (List.length y33)) ≤ bigN) ∧
  (Need (((-9223372036854775808 : Int) ≤ (z22 + (1 : Int))) ∧ ((z22 + (1 : Int)) ≤ (9223372036854775807 : Int))) ∧
  (Need (((y0, (y1, ((y2, (y3, (y4, ()))), (y5, (y6, (y7, ())))))) = (y0, (y1, ((y2, (y3, (y4, ()))), (y5, (y6, (y7, ()))))))) ∧ ((List.length y41) = (List.length y41))) ∧
  ((y19 (z21 ++ y33) (z22 + (1 : Int)) (y34 : Int) (y35 : Int) y36 y37 y38 y39 (y40 : Int) y41) ∧
  Need ((y20 (z21 ++ y33) (z22 + (1 : Int)) (y34 : Int) (y35 : Int) y36 y37 y38 y39 (y40 : Int) y41) < (y20 z21 z22 z23 z24 z25 z26 z27 z28 z29 z30)))))))))))))))))) ∧
 (((decide (z22 < ((List.length y5) : Int))) = false) →
 (Need (((List.length z21) + (List.length [x1])) ≤ bigN) ∧
 (Q (.tv [[]] qt12 (z21 ++ [x1])) [((0, 0), ⟨⟨qt9, ((Option.some (0, 1)), ())⟩, []⟩), ((0, 1), ⟨⟨qt3, ((Option.some (0, 2)), ((Option.some ((0, 3), ((Int.toNat z23), (0, (Int.toNat z24))))), (z25, ())))⟩, []⟩), ((0, 2), ⟨⟨qt1, (z26, (z27, (z28, ())))⟩, []⟩), ((0, 3), ⟨⟨(.arr (Nat.succ (Int.toNat z29)) (List.length z30) qt0), z30⟩, []⟩)])))))))))))))))))))))))))))))))))))))))) : EvF PP orc 16 [.op (0, 0) [], .tv [] (.int .i64) x1] [((0, 0), ⟨⟨qt9, ((some (0, 1)), ())⟩, []⟩), ((0, 1), ⟨⟨qt3, ((some (0, 2)), ((some ((0, 3), g3, 0, n3)), (o0_0_2, ())))⟩, []⟩), ((0, 2), ⟨⟨qt1, (o0_0_0_0, (o0_0_0_1, (o0_0_0_2, ())))⟩, []⟩), ((0, 3), ⟨⟨.arr (Nat.succ g3) l3.length qt0, l3⟩, []⟩)] Q := vcF_ok (sg := sg) (Eq.mp (by kernel_rfl) h)
theorem vc32 (x1 : Int) (g3 : Nat) (l3 : List (((Int × (Int × ((Int × (Int × (Int × Unit))) × (List (Int) × (Bool × (Bool × Unit)))))) × (Int × Unit)))) (n3 : Nat) (o0_0_2 : Int) (o0_0_0_0 : Int) (o0_0_0_1 : Int) (o0_0_0_2 : Int) (Q : AV → Heap → Prop) (h :
(∃ y0 : qT2,
 (∃ y1 : Nat,
 (∃ y2 : Nat,
 (∃ y3 : Int,
 (∃ y4 : Int,
 (∃ y5 : Int,
 (∃ y6 : Int,
 (∃ y7 : Nat,
 (∃ y8 : qT0,
 (Need (E 16 [(.op (0, 0) []), (.tv [] (.int .i64) x1)] [((0, 0), ⟨⟨qt9, ((Option.some (0, 1)), ())⟩, []⟩), ((0, 1), ⟨⟨qt3, ((Option.some (0, 2)), ((Option.some ((0, 3), (g3, (0, n3)))), (o0_0_2, ())))⟩, []⟩), ((0, 2), ⟨⟨qt1, (o0_0_0_0, (o0_0_0_1, (o0_0_0_2, ())))⟩, []⟩), ((0, 3), ⟨⟨(.arr (Nat.succ g3) (List.length l3) qt0), l3⟩, []⟩)] (.tv [[]] qt12 y0) [((0, 0), ⟨⟨qt9, ((Option.some (0, 1)), ())⟩, []⟩), ((0, 1), ⟨⟨qt3, ((Option.some (0, 2)), ((Option.some ((0, 3), (y1, (0, y2)))), (y3, ())))⟩, []⟩), ((0, 2), ⟨⟨qt1, (y4, (y5, (y6, ())))⟩, []⟩), ((0, 3), ⟨⟨(.arr (Nat.succ y7) (List.length y8) qt0), y8⟩, []⟩)]) ∧
 (∃ y9 : (qT8 → (Int → (Int → (Int → (Int → (Int → (Int → (Int → (Int → (qT0 → Prop)))))))))),
 (∃ y10 : (qT8 → (Int → (Int → (Int → (Int → (Int → (Int → (Int → (Int → (qT0 → Nat)))))))))),
 (Need ((List.length y8) = (List.length y8)) ∧
 ((y9 [] (0 : Int) (y1 : Int) (y2 : Int) y3 y4 y5 y6 (y7 : Int) y8) ∧
 (∀ z11 : qT8,
 (∀ z12 : Int,
 (∀ z13 : Int,
 (∀ z14 : Int,
 (∀ z15 : Int,
 (∀ z16 : Int,
 (∀ z17 : Int,
 (∀ z18 : Int,
 (∀ z19 : Int,
 (∀ z20 : qT0,
 ((y9 z11 z12 z13 z14 z15 z16 z17 z18 z19 z20) →
 ((((decide (z12 < ((List.length y0) : Int))) = true) →
  (Need (((0 : Int) ≤ z12) ∧ (z12 < ((List.length y0) : Int))) ∧
  (∃ y23 : Bool,
  (∃ y24 : Nat,
  (∃ y25 : Nat,
  (∃ y26 : Int,
  (∃ y27 : Int,
  (∃ y28 : Int,
  (∃ y29 : Int,
  (∃ y30 : Nat,
  (∃ y31 : qT0,
  (Need (E 36 [(.op (0, 0) []), (.tv [] (.int .i64) (List.getD y0 (Int.toNat z12) (0 : Int)))] [((0, 0), ⟨⟨qt9, ((Option.some (0, 1)), ())⟩, []⟩), ((0, 1), ⟨⟨qt3, ((Option.some (0, 2)), ((Option.some ((0, 3), ((Int.toNat z13), (0, (Int.toNat z14))))), (z15, ())))⟩, []⟩), ((0, 2), ⟨⟨qt1, (z16, (z17, (z18, ())))⟩, []⟩), ((0, 3), ⟨⟨(.arr (Nat.succ (Int.toNat z19)) (List.length z20) qt0), z20⟩, []⟩)] (.tv [] .bool y23) [((0, 0), ⟨⟨qt9, ((Option.some (0, 1)), ())⟩, []⟩), ((0, 1), ⟨⟨qt3, ((Option.some (0, 2)), ((Option.some ((0, 3), (y24, (0, y25)))), (y26, ())))⟩, []⟩), ((0, 2), ⟨⟨qt1, (y27, (y28, (y29, ())))⟩, []⟩), ((0, 3), ⟨⟨(.arr (Nat.succ y30) (List.length y31) qt0), y31⟩, []⟩)]) ∧
  (((y23 = true) →
   (∃ y33 : Int,
   (∃ y34 : Int,
   (∃ y35 : Int,
   (∃ y36 : Nat,
   (∃ y37 : Nat,
   (∃ y38 : Int,
   (∃ y39 : Int,
   (∃ y40 : Int,
   (∃ y41 : Int,
   (∃ y42 : Nat,
   (∃ y43 : qT0,
   (Need (E 17 [(.op (0, 0) []), (.tv [] (.int .i64) (List.getD y0 (Int.toNat z12) (0 : Int)))] [((0, 0), ⟨⟨qt9, ((Option.some (0, 1)), ())⟩, []⟩), ((0, 1), ⟨⟨qt3, ((Option.some (0, 2)), ((Option.some ((0, 3), (y24, (0, y25)))), (y26, ())))⟩, []⟩), ((0, 2), ⟨⟨qt1, (y27, (y28, (y29, ())))⟩, []⟩), ((0, 3), ⟨⟨(.arr (Nat.succ y30) (List.length y31) qt0), y31⟩, []⟩)] (.tv [] qt1 (y33, (y34, (y35, ())))) [((0, 0), ⟨⟨qt9, ((Option.some (0, 1)), ())⟩, []⟩), ((0, 1), ⟨⟨qt3, ((Option.some (0, 2)), ((Option.some ((0, 3), (y36, (0, y37)))), (y38, ())))⟩, []⟩), ((0, 2), ⟨⟨qt1, (y39, (y40, (y41, ())))⟩, []⟩), ((0, 3), ⟨⟨(.arr (Nat.succ y42) (List.length y43) qt0), y43⟩, []⟩)]) ∧
   (Need (((List.length z11) + (List.length [(y33, (y34, (y35, ())))])) ≤ bigN) ∧
   (Need (((-9223372036854775808 : Int) ≤ (z12 + (1 : Int))) ∧ ((z12 + (1 : Int)) ≤ (9223372036854775807 : Int))) ∧
   (Need ((List.length y43) = (List.length y43)) ∧
   ((y9 (z11 ++ [(y33, (y34, (y35, ())))]) (z12 + (1 : Int)) (y36 : Int) (y37 : Int) y38 y39 y40 y41 (y42 : Int) y43) ∧
   Need ((y10 (z11 ++ [(y33, (y34, (y35, ())))]) (z12 + (1 : Int)) (y36 : Int) (y37 : Int) y38 y39 y40 y41 (y42 : Int) y43) < (y10 z11 z12 z13 z14 z15 z16 z17 z18 z19 z20))))))))))))))))))) ∧
  ((y23 = false) →
  (Need (((-9223372036854775808 : Int) ≤ (z12 + (1 : Int))) ∧ ((z12 + (1 : Int)) ≤ (9223372036854775807 : Int))) ∧
  (Need ((List.length y31) = (List.length y31)) ∧
  ((y9 z11 (z12 + (1 : Int)) (y24 : Int) (y25 : Int) y26 y27 y28 y29 (y30 : Int) y31) ∧
  Need ((y10 z11 (z12 + (1 : Int)) (y24 : Int) (y25 : Int) y26 y27 y28 y29 (y30 : Int) y31) < (y10 z11 z12 z13 z14 z15 z16 z17 z18 z19 z20))))))))))))))))))) ∧
 (((decide (z12 < ((List.length y0) : Int))) = false) →
 (Q (.tv [[]] (.slice qt1) z11) [((0, 0), ⟨⟨qt9, ((Option.some (0, 1)), ())⟩, []⟩), ((0, 1), ⟨⟨qt3, ((Option.some (0, 2)), ((Option.some ((0, 3), ((Int.toNat z13), (0, (Int.toNat z14))))), (z15, ())))⟩, []⟩), ((0, 2), ⟨⟨qt1, (z16, (z17, (z18, ())))⟩, []⟩), ((0, 3), ⟨⟨(.arr (Nat.succ (Int.toNat z19)) (List.length z20) qt0), z20⟩, []⟩)]))))))))))))))))))))))))))))) : EvF PP orc 32 [.op (0, 0) [], .tv [] (.int .i64) x1] [((0, 0), ⟨⟨qt9, ((some (0, 1)), ())⟩, []⟩), ((0, 1), ⟨⟨qt3, ((some (0, 2)), ((some ((0, 3), g3, 0, n3)), (o0_0_2, ())))⟩, []⟩), ((0, 2), ⟨⟨qt1, (o0_0_0_0, (o0_0_0_1, (o0_0_0_2, ())))⟩, []⟩), ((0, 3), ⟨⟨.arr (Nat.succ g3) l3.length qt0, l3⟩, []⟩)] Q := vcF_ok (sg := sg) (Eq.mp (by kernel_rfl) h)
end Go.Am.T
