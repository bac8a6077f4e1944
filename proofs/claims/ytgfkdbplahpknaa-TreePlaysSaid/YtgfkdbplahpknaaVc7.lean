/-
  A part of the proof of a law: see the text that states it.
-/
import Derived.Test.YtgfkdbplahpknaaHead
set_option linter.all false
namespace Go.Am.T
open Go
set_option maxRecDepth 100000
set_option maxHeartbeats 4000000
theorem vc10 (o0_0 : Int) (o0_1 : Int) (o0_2 : Int) (Q : AV → Heap → Prop) (h :
(∃ y0 y1 : Nat,
 (∃ y2 : Int,
 (∃ y3 : Nat,
 (∃ y4 : qT0,
 (∃ y5 y6 y7 : Int,
 (Need (E 42 [(.op (0, 0) [])] (hq2 o0_0 o0_1 o0_2) (.op (1, 0) []) [((1, 0), ⟨⟨qt4, ((some (0, 0)), ((some ((1, 1), (y0, (0, y1)))), (y2, ())))⟩, []⟩), ((1, 1), ⟨⟨(.arr (Nat.succ y3) y4.length qt0), y4⟩, []⟩), ((0, 0), ⟨⟨qt1, (y5, (y6, (y7, ())))⟩, []⟩)]) ∧
 (Q (.op (1, 0) []) (hq13 y3 y4 y0 y1 y2 y5 y6 y7))))))))) : EvF PP orc 10 [.op (0, 0) []] (hq2 o0_0 o0_1 o0_2) Q := vcF_ok (sg := sg) (Eq.mp (by kernel_rfl) h)
theorem vc12 (x1_0 : Int) (x1_1 : Int) (x1_2 : Int) (g3 : Nat) (l3 : List (((Int × (Int × ((Int × (Int × (Int × Unit))) × (List (Int) × (Bool × (Bool × Unit)))))) × (Int × Unit)))) (n3 : Nat) (o0_0_2 : Int) (o0_0_0_0 : Int) (o0_0_0_1 : Int) (o0_0_0_2 : Int) (Q : AV → Heap → Prop) (h :
(∃ y0 y1 : Int,
 (∃ y2 y3 : Nat,
 (∃ y4 y5 y6 y7 : Int,
 (∃ y8 : Nat,
 (∃ y9 : qT0,
 (Need (E 44 [(.op (0, 0) []), (.tv [] qt12 ((-(1 : Int)), (x1_0, ((x1_0, (x1_1, (x1_2, ()))), ([], (true, (false, ()))))))), (.tv [] (.int .i64) (1 : Int))] (hq5 g3 n3 o0_0_2 o0_0_0_0 o0_0_0_1 o0_0_0_2 l3) (.tup [(.tv [] (.int .i64) y0), (.tv [] (.int .i64) y1)]) (hq4 y2 y3 y4 y5 y6 y7 y8 y9)) ∧
 (Q (.tup [(.tv [] (.int .i64) y0), (.tv [] (.int .i64) y1)]) (hq0 y2 y3 y4 y5 y6 y7 y8 y9))))))))) : EvF PP orc 12 [.op (0, 0) [], .tv [] qt1 (x1_0, (x1_1, (x1_2, ())))] (hq7 g3 n3 o0_0_2 o0_0_0_0 o0_0_0_1 o0_0_0_2 l3) Q := vcF_ok (sg := sg) (Eq.mp (by kernel_rfl) h)
theorem vc24 (g3 : Nat) (l3 : List (((Int × (Int × ((Int × (Int × (Int × Unit))) × (List (Int) × (Bool × (Bool × Unit)))))) × (Int × Unit)))) (n3 : Nat) (o0_0_2 : Int) (o0_0_0_0 : Int) (o0_0_0_1 : Int) (o0_0_0_2 : Int) (Q : AV → Heap → Prop) (h :
(∃ y0 : Int,
 (∃ y1 y2 : Nat,
 (∃ y3 y4 y5 y6 : Int,
 (∃ y7 : Nat,
 (∃ y8 : qT0,
 (Need (E 51 [(.op (0, 0) [])] (hq5 g3 n3 o0_0_2 o0_0_0_0 o0_0_0_1 o0_0_0_2 l3) (.tv [] (.int .i64) y0) (hq4 y1 y2 y3 y4 y5 y6 y7 y8)) ∧
 (Q (.tv [] (.int .i64) y0) (hq0 y1 y2 y3 y4 y5 y6 y7 y8))))))))) : EvF PP orc 24 [.op (0, 0) []] (hq7 g3 n3 o0_0_2 o0_0_0_0 o0_0_0_1 o0_0_0_2 l3) Q := vcF_ok (sg := sg) (Eq.mp (by kernel_rfl) h)
theorem vc29 (g3 : Nat) (l3 : List (((Int × (Int × ((Int × (Int × (Int × Unit))) × (List (Int) × (Bool × (Bool × Unit)))))) × (Int × Unit)))) (n3 : Nat) (o0_0_2 : Int) (o0_0_0_0 : Int) (o0_0_0_1 : Int) (o0_0_0_2 : Int) (Q : AV → Heap → Prop) (h :
(∃ y0 : Int,
 (∃ y1 y2 : Nat,
 (∃ y3 y4 y5 y6 : Int,
 (∃ y7 : Nat,
 (∃ y8 : qT0,
 (Need (E 59 [(.op (0, 0) [])] (hq5 g3 n3 o0_0_2 o0_0_0_0 o0_0_0_1 o0_0_0_2 l3) (.tv [] (.int .i64) y0) (hq4 y1 y2 y3 y4 y5 y6 y7 y8)) ∧
 (Q (.tv [] (.int .i64) y0) (hq0 y1 y2 y3 y4 y5 y6 y7 y8))))))))) : EvF PP orc 29 [.op (0, 0) []] (hq7 g3 n3 o0_0_2 o0_0_0_0 o0_0_0_1 o0_0_0_2 l3) Q := vcF_ok (sg := sg) (Eq.mp (by kernel_rfl) h)
theorem vc31 (g3 : Nat) (l3 : List (((Int × (Int × ((Int × (Int × (Int × Unit))) × (List (Int) × (Bool × (Bool × Unit)))))) × (Int × Unit)))) (n3 : Nat) (o0_0_2 : Int) (o0_0_0_0 : Int) (o0_0_0_1 : Int) (o0_0_0_2 : Int) (Q : AV → Heap → Prop) (h :
(∃ y0 : Int,
 (∃ y1 y2 : Nat,
 (∃ y3 y4 y5 y6 : Int,
 (∃ y7 : Nat,
 (∃ y8 : qT0,
 (Need (E 60 [(.op (0, 0) []), (.tv [] (.int .i64) (0 : Int))] (hq5 g3 n3 o0_0_2 o0_0_0_0 o0_0_0_1 o0_0_0_2 l3) (.tv [] (.int .i64) y0) (hq4 y1 y2 y3 y4 y5 y6 y7 y8)) ∧
 (Q (.tv [] (.int .i64) y0) (hq0 y1 y2 y3 y4 y5 y6 y7 y8))))))))) : EvF PP orc 31 [.op (0, 0) []] (hq7 g3 n3 o0_0_2 o0_0_0_0 o0_0_0_1 o0_0_0_2 l3) Q := vcF_ok (sg := sg) (Eq.mp (by kernel_rfl) h)
end Go.Am.T
