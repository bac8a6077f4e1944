/-
  A part of the proof of a law: see the text that states it.
-/
import Derived.Test.YtgfkdbplahpknaaHead
set_option linter.all false
namespace Go.Am.T
open Go
set_option maxRecDepth 100000
set_option maxHeartbeats 4000000
theorem vc9  (Q : AV → Heap → Prop) (h :
(∃ y0 : qT7,
 (∃ y1 : qT7,
 (∃ y2 : qT4,
 (∃ y3 : qT2,
 (∃ y4 : qT2,
 (∃ y5 : qT7,
 (Need (E 23 [(.tv [] qt7 ((2 : Int), ((0 : Int), ([(0 : Int)], ([[(0 : Int), (1 : Int)]], ([], ([], ([], ()))))))))] [] (.tv [] qt5 (y0, (y1, (y2, (y3, (y4, (y5, ()))))))) []) ∧
 (∃ y6 : Int,
 (∃ y7 : Int,
 (∃ y8 : Int,
 (Need (E 11 [(.tv [] (.int .i64) (6 : Int))] [] (.op (1, 0) []) [((1, 0), ⟨⟨qt1, (y6, (y7, (y8, ())))⟩, []⟩)]) ∧
 (∃ y9 : Nat,
 (∃ y10 : qT0,
 (∃ y11 : Nat,
 (∃ y12 : Nat,
 (∃ y13 : Int,
 (∃ y14 : Int,
 (∃ y15 : Int,
 (∃ y16 : Int,
 (Need (E 10 [(.op (0, 0) [])] [((0, 0), ⟨⟨qt1, (y6, (y7, (y8, ())))⟩, []⟩)] (.op (1, 0) []) [((1, 0), ⟨⟨qt9, ((Option.some (1, 1)), ())⟩, []⟩), ((1, 2), ⟨⟨(.arr (Nat.succ y9) (List.length y10) qt0), y10⟩, []⟩), ((1, 1), ⟨⟨qt3, ((Option.some (0, 0)), ((Option.some ((1, 2), (y11, (0, y12)))), (y13, ())))⟩, []⟩), ((0, 0), ⟨⟨qt1, (y14, (y15, (y16, ())))⟩, []⟩)]) ∧
 (((false = true) →
  (Q (.tv [] .bool false) [])) ∧
 ((false = false) →
 (∃ y19 : Int,
 (∃ y20 : Int,
 (∃ y21 : Nat,
 (∃ y22 : Nat,
 (∃ y23 : Int,
 (∃ y24 : Int,
 (∃ y25 : Int,
 (∃ y26 : Int,
 (∃ y27 : Nat,
 (∃ y28 : qT0,
 (Need (E 12 [(.op (0, 0) []), (.tv [] qt1 ((1 : Int), ((0 : Int), ((1 : Int), ()))))] [((0, 0), ⟨⟨qt9, ((Option.some (0, 1)), ())⟩, []⟩), ((0, 1), ⟨⟨qt3, ((Option.some (0, 2)), ((Option.some ((0, 3), (y11, (0, y12)))), (y13, ())))⟩, []⟩), ((0, 2), ⟨⟨qt1, (y14, (y15, (y16, ())))⟩, []⟩), ((0, 3), ⟨⟨(.arr (Nat.succ y9) (List.length y10) qt0), y10⟩, []⟩)] (.tup [(.tv [] (.int .i64) y19), (.tv [] (.int .i64) y20)]) [((0, 0), ⟨⟨qt9, ((Option.some (0, 1)), ())⟩, []⟩), ((0, 1), ⟨⟨qt3, ((Option.some (0, 2)), ((Option.some ((0, 3), (y21, (0, y22)))), (y23, ())))⟩, []⟩), ((0, 2), ⟨⟨qt1, (y24, (y25, (y26, ())))⟩, []⟩), ((0, 3), ⟨⟨(.arr (Nat.succ y27) (List.length y28) qt0), y28⟩, []⟩)]) ∧
 (∃ y29 : Int,
 (∃ y30 : Int,
 (∃ y31 : Nat,
 (∃ y32 : Nat,
 (∃ y33 : Int,
 (∃ y34 : Int,
 (∃ y35 : Int,
 (∃ y36 : Int,
 (∃ y37 : Nat,
 (∃ y38 : qT0,
 (Need (E 12 [(.op (0, 0) []), (.tv [] qt1 ((2 : Int), ((1 : Int), ((2 : Int), ()))))] [((0, 0), ⟨⟨qt9, ((Option.some (0, 1)), ())⟩, []⟩), ((0, 1), ⟨⟨qt3, ((Option.some (0, 2)), ((Option.some ((0, 3), (y21, (0, y22)))), (y23, ())))⟩, []⟩), ((0, 2), ⟨⟨qt1, (y24, (y25, (y26, ())))⟩, []⟩), ((0, 3), ⟨⟨(.arr (Nat.succ y27) (List.length y28) qt0), y28⟩, []⟩)] (.tup [(.tv [] (.int .i64) y29), (.tv [] (.int .i64) y30)]) [((0, 0), ⟨⟨qt9, ((Option.some (0, 1)), ())⟩, []⟩), ((0, 1), ⟨⟨qt3, ((Option.some (0, 2)), ((Option.some ((0, 3), (y31, (0, y32)))), (y33, ())))⟩, []⟩), ((0, 2), ⟨⟨qt1, (y34, (y35, (y36, ())))⟩, []⟩), ((0, 3), ⟨⟨(.arr (Nat.succ y37) (List.length y38) qt0), y38⟩, []⟩)]) ∧
 (∃ y39 : Int,
 (∃ y40 : Int,
 (∃ y41 : Nat,
 (∃ y42 : Nat,
 (∃ y43 : Int,
 (∃ y44 : Int,
 (∃ y45 : Int,
 (∃ y46 : Int,
 (∃ y47 : Nat,
 (∃ y48 : qT0,
 (Need (E 13 [(.op (0, 0) []), (.tv [] (.int .i64) (1 : Int)), (.tv [] (.int .i64) (4 : Int)), (.tv [] qt12 [(0 : Int), (1 : Int)])] [((0, 0), ⟨⟨qt9, ((Option.some (0, 1)), ())⟩, []⟩), ((0, 1), ⟨⟨qt3, ((Option.some (0, 2)), ((Option.some ((0, 3), (y31, (0, y32)))), (y33, ())))⟩, []⟩), ((0, 2), ⟨⟨qt1, (y34, (y35, (y36, ())))⟩, []⟩), ((0, 3), ⟨⟨(.arr (Nat.succ y37) (List.length y38) qt0), y38⟩, []⟩)] (.tup [(.tv [] (.int .i64) y39), (.tv [] (.int .i64) y40)]) [((0, 0), ⟨⟨qt9, ((Option.some (0, 1)), ())⟩, []⟩), ((0, 1), ⟨⟨qt3, ((Option.some (0, 2)), ((Option.some ((0, 3), (y41, (0, y42)))), (y43, ())))⟩, []⟩), ((0, 2), ⟨⟨qt1, (y44, (y45, (y46, ())))⟩, []⟩), ((0, 3), ⟨⟨(.arr (Nat.succ y47) (List.length y48) qt0), y48⟩, []⟩)]) ∧
 (∃ y49 : Int,
 (∃ y50 : Int,
 (∃ y51 : Nat,
 (∃ y52 : Nat,
 (∃ y53 : Int,
 (∃ y54 : Int,
 (∃ y55 : Int,
 (∃ y56 : Int,
 (∃ y57 : Nat,
 (∃ y58 : qT0,
 (Need (E 13 [(.op (0, 0) []), (.tv [] (.int .i64) (1 : Int)), (.tv [] (.int .i64) (4 : Int)), (.tv [] qt12 [(0 : Int)])] [((0, 0), ⟨⟨qt9, ((Option.some (0, 1)), ())⟩, []⟩), ((0, 1), ⟨⟨qt3, ((Option.some (0, 2)), ((Option.some ((0, 3), (y41, (0, y42)))), (y43, ())))⟩, []⟩), ((0, 2), ⟨⟨qt1, (y44, (y45, (y46, ())))⟩, []⟩), ((0, 3), ⟨⟨(.arr (Nat.succ y47) (List.length y48) qt0), y48⟩, []⟩)] (.tup [(.tv [] (.int .i64) y49), (.tv [] (.int .i64) y50)]) [((0, 0), ⟨⟨qt9, ((Option.some (0, 1)), ())⟩, []⟩), ((0, 1), ⟨⟨qt3, ((Option.some (0, 2)), ((Option.some ((0, 3), (y51, (0, y52)))), (y53, ())))⟩, []⟩), ((0, 2), ⟨⟨qt1, (y54, (y55, (y56, ())))⟩, []⟩), ((0, 3), ⟨⟨(.arr (Nat.succ y57) (List.length y58) qt0), y58⟩, []⟩)]) ∧
 (∃ y59 : Int,
 (∃ y60 : Int,
 (∃ y61 : Nat,
 (∃ y62 : Nat,
 (∃ y63 : Int,
 (∃ y64 : Int,
 (∃ y65 : Int,
 (∃ y66 : Int,
 (∃ y67 : Nat,
 (∃ y68 : qT0,
 (Need (E 12 [(.op (0, 0) []), (.tv [] qt1 ((3 : Int), ((0 : Int), ((0 : Int), ()))))] [((0, 0), ⟨⟨qt9, ((Option.some (0, 1)), ())⟩, []⟩), ((0, 1), ⟨⟨qt3, ((Option.some (0, 2)), ((Option.some ((0, 3), (y51, (0, y52)))), (y53, ())))⟩, []⟩), ((0, 2), ⟨⟨qt1, (y54, (y55, (y56, ())))⟩, []⟩), ((0, 3), ⟨⟨(.arr (Nat.succ y57) (List.length y58) qt0), y58⟩, []⟩)] (.tup [(.tv [] (.int .i64) y59), (.tv [] (.int .i64) y60)]) [((0, 0), ⟨⟨qt9, ((Option.some (0, 1)), ())⟩, []⟩), ((0, 1), ⟨⟨qt3, ((Option.some (0, 2)), ((Option.some ((0, 3), (y61, (0, y62)))), (y63, ())))⟩, []⟩), ((0, 2), ⟨⟨qt1, (y64, (y65, (y66, ())))⟩, []⟩), ((0, 3), ⟨⟨(.arr (Nat.succ y67) (List.length y68) qt0), y68⟩, []⟩)]) ∧
 ((((decide (y19 = (0 : Int))) = true) →
  ((((decide (y29 = (1 : Int))) = true) →
   ((((decide (y39 = (2 : Int))) = true) →
    ((((decide (y50 = (15 : Int))) = true) →
     ((((decide (y59 = (3 : Int))) = true) →
      ((((decide (y60 = (0 : Int))) = true) →
       (∃ y75 : qT2,
       (∃ y76 : Nat,
       (∃ y77 : Nat,
       (∃ y78 : Int,
       (∃ y79 : Int,
       (∃ y80 : Int,
       (∃ y81 : Int,
       (∃ y82 : Nat,
       (∃ y83 : qT0,
       (Need (E 40 [(.op (0, 0) []), (.tv [] qt5 (y0, (y1, (y2, (y3, (y4, (y5, ()))))))), (.tv [] (.int .i64) (2 : Int))] [((0, 0), ⟨⟨qt9, ((Option.some (0, 1)), ())⟩, []⟩), ((0, 1), ⟨⟨qt3, ((Option.some (0, 2)), ((Option.some ((0, 3), (y61, (0, y62)))), (y63, ())))⟩, []⟩), ((0, 2), ⟨⟨qt1, (y64, (y65, (y66, ())))⟩, []⟩), ((0, 3), ⟨⟨(.arr (Nat.succ y67) (List.length y68) qt0), y68⟩, []⟩)] (.tv [] .str y75) [((0, 0), ⟨⟨qt9, ((Option.some (0, 1)), ())⟩, []⟩), ((0, 1), ⟨⟨qt3, ((Option.some (0, 2)), ((Option.some ((0, 3), (y76, (0, y77)))), (y78, ())))⟩, []⟩), ((0, 2), ⟨⟨qt1, (y79, (y80, (y81, ())))⟩, []⟩), ((0, 3), ⟨⟨(.arr (Nat.succ y82) (List.length y83) qt0), y83⟩, []⟩)]) ∧
       ((((decide (y75 = [(40 : Int), (83 : Int), (32 : Int), (97 : Int), (32 : Int), (98 : Int), (41 : Int)])) = true) →
        (∃ y85 : Int,
        (∃ y86 : Nat,
        (∃ y87 : Nat,
        (∃ y88 : Int,
        (∃ y89 : Int,
        (∃ y90 : Int,
        (∃ y91 : Int,
        (∃ y92 : Nat,
        (∃ y93 : qT0,
        (Need (E 29 [(.op (0, 0) [])] [((0, 0), ⟨⟨qt9, ((Option.some (0, 1)), ())⟩, []⟩), ((0, 1), ⟨⟨qt3, ((Option.some (0, 2)), ((Option.some ((0, 3), (y76, (0, y77)))), (y78, ())))⟩, []⟩), ((0, 2), ⟨⟨qt1, (y79, (y80, (y81, ())))⟩, []⟩), ((0, 3), ⟨⟨(.arr (Nat.succ y82) (List.length y83) qt0), y83⟩, []⟩)] (.tv [] (.int .i64) y85) [((0, 0), ⟨⟨qt9, ((Option.some (0, 1)), ())⟩, []⟩), ((0, 1), ⟨⟨qt3, ((Option.some (0, 2)), ((Option.some ((0, 3), (y86, (0, y87)))), (y88, ())))⟩, []⟩), ((0, 2), ⟨⟨qt1, (y89, (y90, (y91, ())))⟩, []⟩), ((0, 3), ⟨⟨(.arr (Nat.succ y92) (List.length y93) qt0), y93⟩, []⟩)]) ∧
        ((((decide (y85 = (6 : Int))) = true) →
         (∃ y95 : Bool,
         (∃ y96 : Nat,
         (∃ y97 : Nat,
         (∃ y98 : Int,
         (∃ y99 : Int,
         (∃ y100 : Int,
         (∃ y101 : Int,
         (∃ y102 : Nat,
         (∃ y103 : qT0,
         (Need (E 25 [(.op (0, 0) []), (.tv [] qt5 (y0, (y1, (y2, (y3, (y4, (y5, ()))))))), (.tv [] (.int .i64) (2 : Int))] [((0, 0), ⟨⟨qt9, ((Option.some (0, 1)), ())⟩, []⟩), ((0, 1), ⟨⟨qt3, ((Option.some (0, 2)), ((Option.some ((0, 3), (y86, (0, y87)))), (y88, ())))⟩, []⟩), ((0, 2), ⟨⟨qt1, (y89, (y90, (y91, ())))⟩, []⟩), ((0, 3), ⟨⟨(.arr (Nat.succ y92) (List.length y93) qt0), y93⟩, []⟩)] (.tv [] .bool y95) [((0, 0), ⟨⟨qt9, ((Option.some (0, 1)), ())⟩, []⟩), ((0, 1), ⟨⟨qt3, ((Option.some (0, 2)), ((Option.some ((0, 3), (y96, (0, y97)))), (y98, ())))⟩, []⟩), ((0, 2), ⟨⟨qt1, (y99, (y100, (y101, ())))⟩, []⟩), ((0, 3), ⟨⟨(.arr (Nat.succ y102) (List.length y103) qt0), y103⟩, []⟩)]) ∧
         (Q (.tv [] .bool y95) [])))))))))))) ∧
        (((decide (y85 = (6 : Int))) = false) →
        (Q (.tv [] .bool false) [])))))))))))))) ∧
       (((decide (y75 = [(40 : Int), (83 : Int), (32 : Int), (97 : Int), (32 : Int), (98 : Int), (41 : Int)])) = false) →
       (Q (.tv [] .bool false) [])))))))))))))) ∧
      (((decide (y60 = (0 : Int))) = false) →
      (Q (.tv [] .bool false) [])))) ∧
     (((decide (y59 = (3 : Int))) = false) →
     (Q (.tv [] .bool false) [])))) ∧
    (((decide (y50 = (15 : Int))) = false) →
    (Q (.tv [] .bool false) [])))) ∧
   (((decide (y39 = (2 : Int))) = false) →
   (Q (.tv [] .bool false) [])))) ∧
  (((decide (y29 = (1 : Int))) = false) →
  (Q (.tv [] .bool false) [])))) ∧
 (((decide (y19 = (0 : Int))) = false) →
 (Q (.tv [] .bool false) []))))))))))))))))))))))))))))))))))))))))))))))))))))))))))))))))))))))))))))))))) : EvF PP orc 9 [] [] Q := vcF_ok (sg := sg) (Eq.mp (by kernel_rfl) h)
end Go.Am.T
