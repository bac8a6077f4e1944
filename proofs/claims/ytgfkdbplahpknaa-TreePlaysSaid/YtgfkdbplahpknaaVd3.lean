/-
  A part of the proof of a law: see the text that states it.
-/
import Derived.Test.YtgfkdbplahpknaaHead
set_option linter.all false
namespace Go.Am.T
open Go
set_option maxRecDepth 100000
set_option maxHeartbeats 4000000
theorem vc36 (x1 : Int) (g3 : Nat) (l3 : List (((Int × (Int × ((Int × (Int × (Int × Unit))) × (List (Int) × (Bool × (Bool × Unit)))))) × (Int × Unit)))) (n3 : Nat) (o0_0_2 : Int) (o0_0_0_0 : Int) (o0_0_0_1 : Int) (o0_0_0_2 : Int) (Q : AV → Heap → Prop) (h :
(∃ y0 y1 y2 y3 y4 : Int,
 (∃ y5 : qT2,
 (∃ y6 y7 y8 : Bool,
 (∃ y9 y10 : Nat,
 (∃ y11 y12 y13 y14 : Int,
 (∃ y15 : Nat,
 (∃ y16 : qT0,
 (Need (E 45 [(.op (0, 0) []), (.tv [] (.int .i64) x1)] (hq5 g3 n3 o0_0_2 o0_0_0_0 o0_0_0_1 o0_0_0_2 l3) (.tup [(.tv [] qt12 (y0, (y1, ((y2, (y3, (y4, ()))), (y5, (y6, (y7, ()))))))), (.tv [] .bool y8)]) (hq4 y9 y10 y11 y12 y13 y14 y15 y16)) ∧
 (Q (.tv [] .bool y6) (hq0 y9 y10 y11 y12 y13 y14 y15 y16))))))))))) : EvF PP orc 36 [.op (0, 0) [], .tv [] (.int .i64) x1] (hq7 g3 n3 o0_0_2 o0_0_0_0 o0_0_0_1 o0_0_0_2 l3) Q := vcF_ok (sg := sg) (Eq.mp (by kernel_rfl) h)
theorem vc46 (x0 : List (Int)) (x1 : Int) (Q : AV → Heap → Prop) (h :
(∃ y0 : Int,
 (Need (E 66 [(.tv [] qt8 x0), (.tv [] (.int .i64) x1)] [] (.tv [] (.int .i64) y0) []) ∧
 (Q (.tv [] .bool (decide (0 ≤ y0))) [])))) : EvF PP orc 46 [.tv [] qt8 x0, .tv [] (.int .i64) x1] [] Q := vcF_ok (sg := sg) (Eq.mp (by kernel_rfl) h)
theorem vc66 (x0 : List (Int)) (x1 : Int) (Q : AV → Heap → Prop) (h :
(∃ y0 : (Int → Prop),
 (∃ y1 : (Int → Nat),
 ((y0 (0 : Int)) ∧
 (∀ z2 : Int,
 ((y0 z2) →
 ((((decide (z2 < (x0.length : Int))) = true) →
 (Need ((0 ≤ z2) ∧ (z2 < (x0.length : Int))) ∧
 ((((decide (x1 = (List.getD x0 z2.toNat (0 : Int)))) = true) →
 (Q (.tv [] (.int .i64) z2) [])) ∧
 (((decide (x1 = (List.getD x0 z2.toNat (0 : Int)))) = false) →
 (Need ((-9223372036854775808 ≤ (z2 + 1)) ∧ ((z2 + 1) ≤ 9223372036854775807)) ∧
 ((y0 (z2 + 1)) ∧
  Need ((y1 (z2 + 1)) < (y1 z2)))))))) ∧
 (((decide (z2 < (x0.length : Int))) = false) →
 (Q (.tv [] (.int .i64) (-(1 : Int))) []))))))))) : EvF PP orc 66 [.tv [] qt8 x0, .tv [] (.int .i64) x1] [] Q := vcF_ok (sg := sg) (Eq.mp (by kernel_rfl) h)
end Go.Am.T
