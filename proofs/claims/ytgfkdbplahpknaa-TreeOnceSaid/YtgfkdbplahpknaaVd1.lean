/-
  A part of the proof of a law: see the text that states it.
-/
import Derived.Test.YtgfkdbplahpknaaHead
set_option linter.all false
namespace Go.Am.T
open Go
set_option maxRecDepth 100000
set_option maxHeartbeats 4000000
theorem vc14 (x1 : Int) (g3 : Nat) (l3 : List (((Int × (Int × ((Int × (Int × (Int × Unit))) × (List (Int) × (Bool × (Bool × Unit)))))) × (Int × Unit)))) (n3 : Nat) (o0_0_2 : Int) (o0_0_0_0 : Int) (o0_0_0_1 : Int) (o0_0_0_2 : Int) (Q : AV → Heap → Prop) (h :
(∃ y0 : Int,
 (∃ y1 : Int,
 (∃ y2 : Int,
 (∃ y3 : Int,
 (∃ y4 : Int,
 (∃ y5 : qT2,
 (∃ y6 : Bool,
 (∃ y7 : Bool,
 (∃ y8 : Bool,
 (∃ y9 : Nat,
 (∃ y10 : Nat,
 (∃ y11 : Int,
 (∃ y12 : Int,
 (∃ y13 : Int,
 (∃ y14 : Int,
 (∃ y15 : Nat,
 (∃ y16 : qT0,
 (Need (E 45 [(.op (0, 0) []), (.tv [] (.int .i64) x1)] [((0, 0), ⟨⟨qt3, ((Option.some (0, 1)), ((Option.some ((0, 2), (g3, (0, n3)))), (o0_0_2, ())))⟩, []⟩), ((0, 1), ⟨⟨qt1, (o0_0_0_0, (o0_0_0_1, (o0_0_0_2, ())))⟩, []⟩), ((0, 2), ⟨⟨(.arr (Nat.succ g3) (List.length l3) qt0), l3⟩, []⟩)] (.tup [(.tv [] qt10 (y0, (y1, ((y2, (y3, (y4, ()))), (y5, (y6, (y7, ()))))))), (.tv [] .bool y8)]) [((0, 0), ⟨⟨qt3, ((Option.some (0, 1)), ((Option.some ((0, 2), (y9, (0, y10)))), (y11, ())))⟩, []⟩), ((0, 1), ⟨⟨qt1, (y12, (y13, (y14, ())))⟩, []⟩), ((0, 2), ⟨⟨(.arr (Nat.succ y15) (List.length y16) qt0), y16⟩, []⟩)]) ∧
 (∃ y17 : qT2,
 (Need (E 47 [(.tv [] qt12 y5)] [] (.tv [[]] qt12 y17) []) ∧
 (Q (.tv [[]] qt12 y17) [((0, 0), ⟨⟨qt9, ((Option.some (0, 1)), ())⟩, []⟩), ((0, 1), ⟨⟨qt3, ((Option.some (0, 2)), ((Option.some ((0, 3), (y9, (0, y10)))), (y11, ())))⟩, []⟩), ((0, 2), ⟨⟨qt1, (y12, (y13, (y14, ())))⟩, []⟩), ((0, 3), ⟨⟨(.arr (Nat.succ y15) (List.length y16) qt0), y16⟩, []⟩)])))))))))))))))))))))) : EvF PP orc 14 [.op (0, 0) [], .tv [] (.int .i64) x1] [((0, 0), ⟨⟨qt9, ((some (0, 1)), ())⟩, []⟩), ((0, 1), ⟨⟨qt3, ((some (0, 2)), ((some ((0, 3), g3, 0, n3)), (o0_0_2, ())))⟩, []⟩), ((0, 2), ⟨⟨qt1, (o0_0_0_0, (o0_0_0_1, (o0_0_0_2, ())))⟩, []⟩), ((0, 3), ⟨⟨.arr (Nat.succ g3) l3.length qt0, l3⟩, []⟩)] Q := vcF_ok (sg := sg) (Eq.mp (by kernel_rfl) h)
theorem vc17 (x1 : Int) (g3 : Nat) (l3 : List (((Int × (Int × ((Int × (Int × (Int × Unit))) × (List (Int) × (Bool × (Bool × Unit)))))) × (Int × Unit)))) (n3 : Nat) (o0_0_2 : Int) (o0_0_0_0 : Int) (o0_0_0_1 : Int) (o0_0_0_2 : Int) (Q : AV → Heap → Prop) (h :
(∃ y0 : Int,
 (∃ y1 : Int,
 (∃ y2 : Int,
 (∃ y3 : Int,
 (∃ y4 : Int,
 (∃ y5 : qT2,
 (∃ y6 : Bool,
 (∃ y7 : Bool,
 (∃ y8 : Bool,
 (∃ y9 : Nat,
 (∃ y10 : Nat,
 (∃ y11 : Int,
 (∃ y12 : Int,
 (∃ y13 : Int,
 (∃ y14 : Int,
 (∃ y15 : Nat,
 (∃ y16 : qT0,
 (Need (E 45 [(.op (0, 0) []), (.tv [] (.int .i64) x1)] [((0, 0), ⟨⟨qt3, ((Option.some (0, 1)), ((Option.some ((0, 2), (g3, (0, n3)))), (o0_0_2, ())))⟩, []⟩), ((0, 1), ⟨⟨qt1, (o0_0_0_0, (o0_0_0_1, (o0_0_0_2, ())))⟩, []⟩), ((0, 2), ⟨⟨(.arr (Nat.succ g3) (List.length l3) qt0), l3⟩, []⟩)] (.tup [(.tv [] qt10 (y0, (y1, ((y2, (y3, (y4, ()))), (y5, (y6, (y7, ()))))))), (.tv [] .bool y8)]) [((0, 0), ⟨⟨qt3, ((Option.some (0, 1)), ((Option.some ((0, 2), (y9, (0, y10)))), (y11, ())))⟩, []⟩), ((0, 1), ⟨⟨qt1, (y12, (y13, (y14, ())))⟩, []⟩), ((0, 2), ⟨⟨(.arr (Nat.succ y15) (List.length y16) qt0), y16⟩, []⟩)]) ∧
 (Q (.tv [] qt1 (y2, (y3, (y4, ())))) [((0, 0), ⟨⟨qt9, ((Option.some (0, 1)), ())⟩, []⟩), ((0, 1), ⟨⟨qt3, ((Option.some (0, 2)), ((Option.some ((0, 3), (y9, (0, y10)))), (y11, ())))⟩, []⟩), ((0, 2), ⟨⟨qt1, (y12, (y13, (y14, ())))⟩, []⟩), ((0, 3), ⟨⟨(.arr (Nat.succ y15) (List.length y16) qt0), y16⟩, []⟩)])))))))))))))))))))) : EvF PP orc 17 [.op (0, 0) [], .tv [] (.int .i64) x1] [((0, 0), ⟨⟨qt9, ((some (0, 1)), ())⟩, []⟩), ((0, 1), ⟨⟨qt3, ((some (0, 2)), ((some ((0, 3), g3, 0, n3)), (o0_0_2, ())))⟩, []⟩), ((0, 2), ⟨⟨qt1, (o0_0_0_0, (o0_0_0_1, (o0_0_0_2, ())))⟩, []⟩), ((0, 3), ⟨⟨.arr (Nat.succ g3) l3.length qt0, l3⟩, []⟩)] Q := vcF_ok (sg := sg) (Eq.mp (by kernel_rfl) h)
end Go.Am.T
