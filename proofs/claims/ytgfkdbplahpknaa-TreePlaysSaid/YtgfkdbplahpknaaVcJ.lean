/-
  A part of the proof of a law: see the text that states it.
-/
import Derived.Test.YtgfkdbplahpknaaHead
set_option linter.all false
namespace Go.Am.T
open Go
set_option maxRecDepth 100000
set_option maxHeartbeats 4000000
theorem vc25 (x1_0 : List qT2) (x1_1 : List qT2) (x1_2 : List ((Int × (List (Int) × (Int × Unit))))) (x1_3 : List (Int)) (x1_4 : List (Int)) (x1_5 : List qT2) (x2 : Int) (g3 : Nat) (l3 : List (((Int × (Int × ((Int × (Int × (Int × Unit))) × (List (Int) × (Bool × (Bool × Unit)))))) × (Int × Unit)))) (n3 : Nat) (o0_0_2 : Int) (o0_0_0_0 : Int) (o0_0_0_1 : Int) (o0_0_0_2 : Int) (Q : AV → Heap → Prop) (h :
(∃ y0 : qT2,
 (∃ y1 y2 : Nat,
 (∃ y3 y4 y5 y6 : Int,
 (∃ y7 : Nat,
 (∃ y8 : qT0,
 (Need (E 16 [(.op (0, 0) []), (.tv [] (.int .i64) x2)] (hq12 g3 n3 o0_0_2 o0_0_0_0 o0_0_0_1 o0_0_0_2 l3) (.tv [[]] qt8 y0) (hq0 y1 y2 y3 y4 y5 y6 y7 y8)) ∧
 ((((decide ((0 : Int) < (y0.length : Int))) = true) →
 (∃ y10 : Bool,
 (∃ y11 y12 : qT7,
 (∃ y13 : qT4,
 (∃ y14 y15 : qT2,
 (∃ y16 : qT7,
 (∃ y17 y18 : Nat,
 (∃ y19 y20 y21 y22 : Int,
 (∃ y23 : Nat,
 (∃ y24 : qT0,
 (Need (E 52 [(.tv [] qt8 y0), (.fn 53 [] [(.op (0, 0) []), (.op (0, 1) [])])] (hq10 x1_0 x1_1 x1_2 x1_3 x1_4 x1_5 y1 y2 y3 y4 y5 y6 y7 y8) (.tv [] .bool y10) (hq10 y11 y12 y13 y14 y15 y16 y17 y18 y19 y20 y21 y22 y23 y24)) ∧
 (Q (.tv [] .bool (!y10)) (hq0 y17 y18 y19 y20 y21 y22 y23 y24))))))))))))) ∧
 (((decide ((0 : Int) < (y0.length : Int))) = false) →
 (Q (.tv [] .bool false) (hq0 y1 y2 y3 y4 y5 y6 y7 y8))))))))))) : EvF PP orc 25 [.op (0, 0) [], .tv [] qt3 (x1_0, (x1_1, (x1_2, (x1_3, (x1_4, (x1_5, ())))))), .tv [] (.int .i64) x2] (hq7 g3 n3 o0_0_2 o0_0_0_0 o0_0_0_1 o0_0_0_2 l3) Q := vcF_ok (sg := sg) (Eq.mp (by kernel_rfl) h)
theorem vc52 (x0 : List (Int)) (o1_0 : List qT2) (o1_1 : List qT2) (o1_2 : List ((Int × (List (Int) × (Int × Unit))))) (o1_3 : List (Int)) (o1_4 : List (Int)) (o1_5 : List qT2) (g5 : Nat) (l5 : List (((Int × (Int × ((Int × (Int × (Int × Unit))) × (List (Int) × (Bool × (Bool × Unit)))))) × (Int × Unit)))) (n5 : Nat) (o0_0_2 : Int) (o0_0_0_0 : Int) (o0_0_0_1 : Int) (o0_0_0_2 : Int) (Q : AV → Heap → Prop) (h :
(∃ y0 : Int,
 (∃ y1 y2 : qT7,
 (∃ y3 : qT4,
 (∃ y4 y5 : qT2,
 (∃ y6 : qT7,
 (∃ y7 y8 : Nat,
 (∃ y9 y10 y11 y12 : Int,
 (∃ y13 : Nat,
 (∃ y14 : qT0,
 (Need (E 71 [(.tv [] qt8 x0), (.fn (53 : FuncId) [] [(.op (0, 0) []), (.op (0, 1) [])])] [((0, 0), ⟨⟨.ref, (some (0, 2))⟩, []⟩), ((0, 1), ⟨⟨qt3, (o1_0, (o1_1, (o1_2, (o1_3, (o1_4, (o1_5, ()))))))⟩, []⟩), ((0, 2), ⟨⟨qt7, ((some (0, 3)), ())⟩, []⟩), ((0, 3), ⟨⟨qt4, ((some (0, 4)), ((some ((0, 5), (g5, (0, n5)))), (o0_0_2, ())))⟩, []⟩), ((0, 4), ⟨⟨qt1, (o0_0_0_0, (o0_0_0_1, (o0_0_0_2, ())))⟩, []⟩), ((0, 5), ⟨⟨(.arr (Nat.succ g5) l5.length qt0), l5⟩, []⟩)] (.tv [] (.int .i64) y0) (hq10 y1 y2 y3 y4 y5 y6 y7 y8 y9 y10 y11 y12 y13 y14)) ∧
 (Q (.tv [] .bool (decide (0 ≤ y0))) (hq10 y1 y2 y3 y4 y5 y6 y7 y8 y9 y10 y11 y12 y13 y14))))))))))))) : EvF PP orc 52 [.tv [] qt8 x0, .fn 53 [] [.op (0, 0) [], .op (0, 1) []]] (hq16 o1_0 o1_1 o1_2 o1_3 o1_4 o1_5 g5 n5 o0_0_2 o0_0_0_0 o0_0_0_1 o0_0_0_2 l5) Q := vcF_ok (sg := sg) (Eq.mp (by kernel_rfl) h)
theorem vc71 (x0 : List (Int)) (o1_0 : List qT2) (o1_1 : List qT2) (o1_2 : List ((Int × (List (Int) × (Int × Unit))))) (o1_3 : List (Int)) (o1_4 : List (Int)) (o1_5 : List qT2) (g5 : Nat) (l5 : List (((Int × (Int × ((Int × (Int × (Int × Unit))) × (List (Int) × (Bool × (Bool × Unit)))))) × (Int × Unit)))) (n5 : Nat) (o0_0_2 : Int) (o0_0_0_0 : Int) (o0_0_0_1 : Int) (o0_0_0_2 : Int) (Q : AV → Heap → Prop) (h :
(∃ y0 : (Int → (qT7 → (qT7 → (qT4 → (qT2 → (qT2 → (qT7 → (Int → (Int → (Int → (Int → (Int → (Int → (Int → (qT0 → Prop))))))))))))))),
 (∃ y1 : (Int → (qT7 → (qT7 → (qT4 → (qT2 → (qT2 → (qT7 → (Int → (Int → (Int → (Int → (Int → (Int → (Int → (qT0 → Nat))))))))))))))),
 (Need (l5.length = l5.length) ∧
 ((y0 (0 : Int) o1_0 o1_1 o1_2 o1_3 o1_4 o1_5 (g5 : Int) (n5 : Int) o0_0_2 o0_0_0_0 o0_0_0_1 o0_0_0_2 (g5 : Int) l5) ∧
 (∀ z2 : Int,
 (∀ z3 z4 : qT7,
 (∀ z5 : qT4,
 (∀ z6 z7 : qT2,
 (∀ z8 : qT7,
 (∀ z9 z10 z11 z12 z13 z14 z15 : Int,
 (∀ z16 : qT0,
 ((y0 z2 z3 z4 z5 z6 z7 z8 z9 z10 z11 z12 z13 z14 z15 z16) →
 ((((decide (z2 < (x0.length : Int))) = true) →
 (Need ((0 ≤ z2) ∧ (z2 < (x0.length : Int))) ∧
 (∃ y19 : Bool,
 (∃ y20 y21 : qT7,
 (∃ y22 : qT4,
 (∃ y23 y24 : qT2,
 (∃ y25 : qT7,
 (∃ y26 y27 : Nat,
 (∃ y28 y29 y30 y31 : Int,
 (∃ y32 : Nat,
 (∃ y33 : qT0,
 (Need (E (53 : FuncId) [(.tv [] (.int .i64) (List.getD x0 z2.toNat (0 : Int))), (.op (0, 0) []), (.op (0, 1) [])] (hq10 z3 z4 z5 z6 z7 z8 z9.toNat z10.toNat z11 z12 z13 z14 z15.toNat z16) (.tv [] .bool y19) (hq10 y20 y21 y22 y23 y24 y25 y26 y27 y28 y29 y30 y31 y32 y33)) ∧
 (((y19 = true) →
 (Q (.tv [] (.int .i64) z2) (hq10 y20 y21 y22 y23 y24 y25 y26 y27 y28 y29 y30 y31 y32 y33))) ∧
 ((y19 = false) →
 (Need ((-9223372036854775808 ≤ (z2 + 1)) ∧ ((z2 + 1) ≤ 9223372036854775807)) ∧
 (Need (y33.length = y33.length) ∧
 ((y0 (z2 + 1) y20 y21 y22 y23 y24 y25 (y26 : Int) (y27 : Int) y28 y29 y30 y31 (y32 : Int) y33) ∧
  Need ((y1 (z2 + 1) y20 y21 y22 y23 y24 y25 (y26 : Int) (y27 : Int) y28 y29 y30 y31 (y32 : Int) y33) < (y1 z2 z3 z4 z5 z6 z7 z8 z9 z10 z11 z12 z13 z14 z15 z16))))))))))))))))))) ∧
 (((decide (z2 < (x0.length : Int))) = false) →
 (Q (.tv [] (.int .i64) (-(1 : Int))) (hq10 z3 z4 z5 z6 z7 z8 z9.toNat z10.toNat z11 z12 z13 z14 z15.toNat z16))))))))))))))))) : EvF PP orc 71 [.tv [] qt8 x0, .fn 53 [] [.op (0, 0) [], .op (0, 1) []]] (hq16 o1_0 o1_1 o1_2 o1_3 o1_4 o1_5 g5 n5 o0_0_2 o0_0_0_0 o0_0_0_1 o0_0_0_2 l5) Q := vcF_ok (sg := sg) (Eq.mp (by kernel_rfl) h)
theorem vc53 (x0 : Int) (o1_0 : List qT2) (o1_1 : List qT2) (o1_2 : List ((Int × (List (Int) × (Int × Unit))))) (o1_3 : List (Int)) (o1_4 : List (Int)) (o1_5 : List qT2) (g5 : Nat) (l5 : List (((Int × (Int × ((Int × (Int × (Int × Unit))) × (List (Int) × (Bool × (Bool × Unit)))))) × (Int × Unit)))) (n5 : Nat) (o0_0_2 : Int) (o0_0_0_0 : Int) (o0_0_0_1 : Int) (o0_0_0_2 : Int) (Q : AV → Heap → Prop) (h :
(∃ y0 : Bool,
 (∃ y1 y2 : Nat,
 (∃ y3 y4 y5 y6 : Int,
 (∃ y7 : Nat,
 (∃ y8 : qT0,
 (Need (E 54 [(.op (0, 0) []), (.tv [] qt3 (o1_0, (o1_1, (o1_2, (o1_3, (o1_4, (o1_5, ()))))))), (.tv [] (.int .i64) x0)] (hq12 g5 n5 o0_0_2 o0_0_0_0 o0_0_0_1 o0_0_0_2 l5) (.tv [] .bool y0) (hq0 y1 y2 y3 y4 y5 y6 y7 y8)) ∧
 (Q (.tv [] .bool (!y0)) (hq10 o1_0 o1_1 o1_2 o1_3 o1_4 o1_5 y1 y2 y3 y4 y5 y6 y7 y8))))))))) : EvF PP orc 53 [.tv [] (.int .i64) x0, .op (0, 0) [], .op (0, 1) []] (hq16 o1_0 o1_1 o1_2 o1_3 o1_4 o1_5 g5 n5 o0_0_2 o0_0_0_0 o0_0_0_1 o0_0_0_2 l5) Q := vcF_ok (sg := sg) (Eq.mp (by kernel_rfl) h)
theorem vc15 (x0 : List (Int)) (x1 : List (Int)) (Q : AV → Heap → Prop) (h :
((((decide ((x0.length : Int) ≠ (x1.length : Int))) = true) →
 (Q (.tv [] .bool false) [])) ∧
 (((decide ((x0.length : Int) ≠ (x1.length : Int))) = false) →
 (∃ y2 : (Int → Prop),
 (∃ y3 : (Int → Nat),
 ((y2 (0 : Int)) ∧
 (∀ z4 : Int,
 ((y2 z4) →
 ((((decide (z4 < (x0.length : Int))) = true) →
 (Need ((0 ≤ z4) ∧ (z4 < (x0.length : Int))) ∧
 (Need ((0 ≤ z4) ∧ (z4 < (x1.length : Int))) ∧
 ((((decide ((List.getD x0 z4.toNat (0 : Int)) ≠ (List.getD x1 z4.toNat (0 : Int)))) = true) →
 (Q (.tv [] .bool false) [])) ∧
 (((decide ((List.getD x0 z4.toNat (0 : Int)) ≠ (List.getD x1 z4.toNat (0 : Int)))) = false) →
 (Need ((-9223372036854775808 ≤ (z4 + 1)) ∧ ((z4 + 1) ≤ 9223372036854775807)) ∧
 ((y2 (z4 + 1)) ∧
  Need ((y3 (z4 + 1)) < (y3 z4))))))))) ∧
 (((decide (z4 < (x0.length : Int))) = false) →
 (Q (.tv [] .bool true) []))))))))))) : EvF PP orc 15 [.tv [] qt8 x0, .tv [] qt8 x1] [] Q := vcF_ok (sg := sg) (Eq.mp (by kernel_rfl) h)
theorem vc72 (x0_0 : List qT2) (x0_1 : List qT2) (x0_2 : List ((Int × (List (Int) × (Int × Unit))))) (x0_3 : List (Int)) (x0_4 : List (Int)) (x0_5 : List qT2) (x1 : Int) (Q : AV → Heap → Prop) (h :
((((decide (0 ≤ x1)) = true) →
 (Q (.tv [] .bool (decide (x1 < (x0_0.length : Int)))) [])) ∧
 (((decide (0 ≤ x1)) = false) →
 (Q (.tv [] .bool false) [])))) : EvF PP orc 72 [.tv [] qt3 (x0_0, (x0_1, (x0_2, (x0_3, (x0_4, (x0_5, ())))))), .tv [] (.int .i64) x1] [] Q := vcF_ok (sg := sg) (Eq.mp (by kernel_rfl) h)
theorem vc73 (x0 : List (Int)) (x1 : List (Int)) (Q : AV → Heap → Prop) (h :
((((decide ((x0.length : Int) ≠ (x1.length : Int))) = true) →
 (Q (.tv [] .bool false) [])) ∧
 (((decide ((x0.length : Int) ≠ (x1.length : Int))) = false) →
 (∃ y2 : (Int → Prop),
 (∃ y3 : (Int → Nat),
 ((y2 (0 : Int)) ∧
 (∀ z4 : Int,
 ((y2 z4) →
 ((((decide (z4 < (x0.length : Int))) = true) →
 (Need ((0 ≤ z4) ∧ (z4 < (x0.length : Int))) ∧
 (Need ((0 ≤ z4) ∧ (z4 < (x1.length : Int))) ∧
 ((((decide ((List.getD x0 z4.toNat (0 : Int)) ≠ (List.getD x1 z4.toNat (0 : Int)))) = true) →
 (Q (.tv [] .bool false) [])) ∧
 (((decide ((List.getD x0 z4.toNat (0 : Int)) ≠ (List.getD x1 z4.toNat (0 : Int)))) = false) →
 (Need ((-9223372036854775808 ≤ (z4 + 1)) ∧ ((z4 + 1) ≤ 9223372036854775807)) ∧
 ((y2 (z4 + 1)) ∧
  Need ((y3 (z4 + 1)) < (y3 z4))))))))) ∧
 (((decide (z4 < (x0.length : Int))) = false) →
 (Q (.tv [] .bool true) []))))))))))) : EvF PP orc 73 [.tv [] qt8 x0, .tv [] qt8 x1] [] Q := vcF_ok (sg := sg) (Eq.mp (by kernel_rfl) h)
end Go.Am.T
namespace Go.Am.T
open Go
set_option maxRecDepth 100000
set_option maxHeartbeats 4000000
theorem vc54 (x1_0 : List qT2) (x1_1 : List qT2) (x1_2 : List ((Int × (List (Int) × (Int × Unit))))) (x1_3 : List (Int)) (x1_4 : List (Int)) (x1_5 : List qT2) (x2 : Int) (g3 : Nat) (l3 : List (((Int × (Int × ((Int × (Int × (Int × Unit))) × (List (Int) × (Bool × (Bool × Unit)))))) × (Int × Unit)))) (n3 : Nat) (o0_0_2 : Int) (o0_0_0_0 : Int) (o0_0_0_1 : Int) (o0_0_0_2 : Int) (Q : AV → Heap → Prop) (h :
(∃ y0 : Bool,
 (∃ y1 y2 : Nat,
 (∃ y3 y4 y5 y6 : Int,
 (∃ y7 : Nat,
 (∃ y8 : qT0,
 (Need (E 36 [(.op (0, 0) []), (.tv [] (.int .i64) x2)] (hq12 g3 n3 o0_0_2 o0_0_0_0 o0_0_0_1 o0_0_0_2 l3) (.tv [] .bool y0) (hq0 y1 y2 y3 y4 y5 y6 y7 y8)) ∧
 (((y0 = true) →
 (∃ y10 : Int,
 (∃ y11 y12 : Nat,
 (∃ y13 y14 y15 y16 : Int,
 (∃ y17 : Nat,
 (∃ y18 : qT0,
 (Need (E 19 [(.op (0, 0) []), (.tv [] (.int .i64) x2)] (hq0 y1 y2 y3 y4 y5 y6 y7 y8) (.tv [] (.int .i64) y10) (hq0 y11 y12 y13 y14 y15 y16 y17 y18)) ∧
 ((((decide (0 < y10)) = true) →
 (∃ y20 : Int,
 (∃ y21 y22 : Nat,
 (∃ y23 y24 y25 y26 : Int,
 (∃ y27 : Nat,
 (∃ y28 : qT0,
 (Need (E 19 [(.op (0, 0) []), (.tv [] (.int .i64) x2)] (hq0 y11 y12 y13 y14 y15 y16 y17 y18) (.tv [] (.int .i64) y20) (hq0 y21 y22 y23 y24 y25 y26 y27 y28)) ∧
 (∃ y29 : Bool,
 (Need (E 72 [(.tv [] qt3 (x1_0, (x1_1, (x1_2, (x1_3, (x1_4, (x1_5, ()))))))), (.tv [] (.int .i64) y20)] [] (.tv [] .bool y29) []) ∧
 (Q (.tv [] .bool y29) (hq0 y21 y22 y23 y24 y25 y26 y27 y28))))))))))) ∧
 (((decide (0 < y10)) = false) →
 (Q (.tv [] .bool false) (hq0 y11 y12 y13 y14 y15 y16 y17 y18))))))))))) ∧
 ((y0 = false) →
 (∃ y32 : Int,
 (∃ y33 y34 : Nat,
 (∃ y35 y36 y37 y38 : Int,
 (∃ y39 : Nat,
 (∃ y40 : qT0,
 (Need (E 18 [(.op (0, 0) []), (.tv [] (.int .i64) x2)] (hq0 y1 y2 y3 y4 y5 y6 y7 y8) (.tv [] (.int .i64) y32) (hq0 y33 y34 y35 y36 y37 y38 y39 y40)) ∧
 ((((decide (y32 < 1)) = true) →
 (Q (.tv [] .bool false) (hq0 y33 y34 y35 y36 y37 y38 y39 y40))) ∧
 (((decide (y32 < 1)) = false) →
 ((((decide ((x1_2.length : Int) ≤ y32)) = true) →
 (Q (.tv [] .bool false) (hq0 y33 y34 y35 y36 y37 y38 y39 y40))) ∧
 (((decide ((x1_2.length : Int) ≤ y32)) = false) →
 (Need ((0 ≤ y32) ∧ (y32 < (x1_2.length : Int))) ∧
 (∃ y45 : Int,
 (∃ y46 y47 : Nat,
 (∃ y48 y49 y50 y51 : Int,
 (∃ y52 : Nat,
 (∃ y53 : qT0,
 (Need (E 19 [(.op (0, 0) []), (.tv [] (.int .i64) x2)] (hq0 y33 y34 y35 y36 y37 y38 y39 y40) (.tv [] (.int .i64) y45) (hq0 y46 y47 y48 y49 y50 y51 y52 y53)) ∧
 ((((decide ((List.getD x1_2 y32.toNat ((0 : Int), ([], ((0 : Int), ())))).1 ≠ y45)) = true) →
 (Q (.tv [] .bool false) (hq0 y46 y47 y48 y49 y50 y51 y52 y53))) ∧
 (((decide ((List.getD x1_2 y32.toNat ((0 : Int), ([], ((0 : Int), ())))).1 ≠ y45)) = false) →
 (∃ y56 : qT2,
 (∃ y57 y58 : Nat,
 (∃ y59 y60 y61 y62 : Int,
 (∃ y63 : Nat,
 (∃ y64 : qT0,
 (Need (E 14 [(.op (0, 0) []), (.tv [] (.int .i64) x2)] (hq0 y46 y47 y48 y49 y50 y51 y52 y53) (.tv [[]] qt8 y56) (hq0 y57 y58 y59 y60 y61 y62 y63 y64)) ∧
 (∃ y65 : (qT2 → (Int → (Int → (Int → (Int → (Int → (Int → (Int → (Int → (qT0 → Prop)))))))))),
 (∃ y66 : (qT2 → (Int → (Int → (Int → (Int → (Int → (Int → (Int → (Int → (qT0 → Nat)))))))))),
 (Need (y64.length = y64.length) ∧
 ((y65 [] (0 : Int) (y57 : Int) (y58 : Int) y59 y60 y61 y62 (y63 : Int) y64) ∧
 (∀ z67 : qT2,
 (∀ z68 z69 z70 z71 z72 z73 z74 z75 : Int,
 (∀ z76 : qT0,
 ((y65 z67 z68 z69 z70 z71 z72 z73 z74 z75 z76) →
 ((((decide (z68 < (y56.length : Int))) = true) →
 (Need ((0 ≤ z68) ∧ (z68 < (y56.length : Int))) ∧
 (∃ y79 : Int,
 (∃ y80 y81 : Nat,
 (∃ y82 y83 y84 y85 : Int,
 (∃ y86 : Nat,
 (∃ y87 : qT0,
 (Need (E 19 [(.op (0, 0) []), (.tv [] (.int .i64) (List.getD y56 z68.toNat (0 : Int)))] (hq0 z69.toNat z70.toNat z71 z72 z73 z74 z75.toNat z76) (.tv [] (.int .i64) y79) (hq0 y80 y81 y82 y83 y84 y85 y86 y87)) ∧
 (Need ((z67.length + (List.length [y79])) ≤ bigN) ∧
 (Need ((-9223372036854775808 ≤ (z68 + 1)) ∧ ((z68 + 1) ≤ 9223372036854775807)) ∧
 (Need (y87.length = y87.length) ∧
 ((y65 (z67 ++ [y79]) (z68 + 1) (y80 : Int) (y81 : Int) y82 y83 y84 y85 (y86 : Int) y87) ∧
  Need ((y66 (z67 ++ [y79]) (z68 + 1) (y80 : Int) (y81 : Int) y82 y83 y84 y85 (y86 : Int) y87) < (y66 z67 z68 z69 z70 z71 z72 z73 z74 z75 z76)))))))))))))) ∧
 (((decide (z68 < (y56.length : Int))) = false) →
 (Need ((0 ≤ y32) ∧ (y32 < (x1_2.length : Int))) ∧
 (∃ y89 : Bool,
 (Need (E 73 [(.tv [] qt8 z67), (.tv [] qt8 (List.getD x1_2 y32.toNat ((0 : Int), ([], ((0 : Int), ())))).2.1)] [] (.tv [] .bool y89) []) ∧
 (Q (.tv [] .bool y89) (hq0 z69.toNat z70.toNat z71 z72 z73 z74 z75.toNat z76))))))))))))))))))))))))))))))))))))))))))))))))) : EvF PP orc 54 [.op (0, 0) [], .tv [] qt3 (x1_0, (x1_1, (x1_2, (x1_3, (x1_4, (x1_5, ())))))), .tv [] (.int .i64) x2] (hq7 g3 n3 o0_0_2 o0_0_0_0 o0_0_0_1 o0_0_0_2 l3) Q := vcF_ok (sg := sg) (Eq.mp (by kernel_rfl) h)
end Go.Am.T
