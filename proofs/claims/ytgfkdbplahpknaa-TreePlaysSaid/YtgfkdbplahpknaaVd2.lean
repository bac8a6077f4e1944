/-
  A part of the proof of a law: see the text that states it.
-/
import Derived.Test.YtgfkdbplahpknaaHead
set_option linter.all false
namespace Go.Am.T
open Go
set_option maxRecDepth 100000
set_option maxHeartbeats 4000000
theorem vc18 (x1 : Int) (g3 : Nat) (l3 : List (((Int × (Int × ((Int × (Int × (Int × Unit))) × (List (Int) × (Bool × (Bool × Unit)))))) × (Int × Unit)))) (n3 : Nat) (o0_0_2 : Int) (o0_0_0_0 : Int) (o0_0_0_1 : Int) (o0_0_0_2 : Int) (Q : AV → Heap → Prop) (h :
(∃ y0 y1 y2 y3 y4 : Int,
 (∃ y5 : qT2,
 (∃ y6 y7 y8 : Bool,
 (∃ y9 y10 : Nat,
 (∃ y11 y12 y13 y14 : Int,
 (∃ y15 : Nat,
 (∃ y16 : qT0,
 (Need (E 45 [(.op (0, 0) []), (.tv [] (.int .i64) x1)] (hq5 g3 n3 o0_0_2 o0_0_0_0 o0_0_0_1 o0_0_0_2 l3) (.tup [(.tv [] qt12 (y0, (y1, ((y2, (y3, (y4, ()))), (y5, (y6, (y7, ()))))))), (.tv [] .bool y8)]) (hq4 y9 y10 y11 y12 y13 y14 y15 y16)) ∧
 ((((!y8) = true) →
 (Q (.tv [] (.int .i64) (-(1 : Int))) (hq0 y9 y10 y11 y12 y13 y14 y15 y16))) ∧
 (((!y8) = false) →
 (Q (.tv [] (.int .i64) y0) (hq0 y9 y10 y11 y12 y13 y14 y15 y16))))))))))))) : EvF PP orc 18 [.op (0, 0) [], .tv [] (.int .i64) x1] (hq7 g3 n3 o0_0_2 o0_0_0_0 o0_0_0_1 o0_0_0_2 l3) Q := vcF_ok (sg := sg) (Eq.mp (by kernel_rfl) h)
theorem vc19 (x1 : Int) (g3 : Nat) (l3 : List (((Int × (Int × ((Int × (Int × (Int × Unit))) × (List (Int) × (Bool × (Bool × Unit)))))) × (Int × Unit)))) (n3 : Nat) (o0_0_2 : Int) (o0_0_0_0 : Int) (o0_0_0_1 : Int) (o0_0_0_2 : Int) (Q : AV → Heap → Prop) (h :
(∃ y0 y1 y2 y3 y4 : Int,
 (∃ y5 : qT2,
 (∃ y6 y7 y8 : Bool,
 (∃ y9 y10 : Nat,
 (∃ y11 y12 y13 y14 : Int,
 (∃ y15 : Nat,
 (∃ y16 : qT0,
 (Need (E 45 [(.op (0, 0) []), (.tv [] (.int .i64) x1)] (hq5 g3 n3 o0_0_2 o0_0_0_0 o0_0_0_1 o0_0_0_2 l3) (.tup [(.tv [] qt12 (y0, (y1, ((y2, (y3, (y4, ()))), (y5, (y6, (y7, ()))))))), (.tv [] .bool y8)]) (hq4 y9 y10 y11 y12 y13 y14 y15 y16)) ∧
 ((((!y8) = true) →
 (Q (.tv [] (.int .i64) (-(1 : Int))) (hq0 y9 y10 y11 y12 y13 y14 y15 y16))) ∧
 (((!y8) = false) →
 (Q (.tv [] (.int .i64) y1) (hq0 y9 y10 y11 y12 y13 y14 y15 y16))))))))))))) : EvF PP orc 19 [.op (0, 0) [], .tv [] (.int .i64) x1] (hq7 g3 n3 o0_0_2 o0_0_0_0 o0_0_0_1 o0_0_0_2 l3) Q := vcF_ok (sg := sg) (Eq.mp (by kernel_rfl) h)
end Go.Am.T
