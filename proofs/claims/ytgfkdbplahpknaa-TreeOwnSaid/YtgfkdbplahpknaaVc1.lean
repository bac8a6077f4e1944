/-
  A part of the proof of a law: see the text that states it.
-/
import Derived.Test.YtgfkdbplahpknaaHead
set_option linter.all false
namespace Go.Am.T
open Go
set_option maxRecDepth 100000
set_option maxHeartbeats 4000000
theorem vc3 (x0_0 : Int) (x0_1 : Int) (x0_2 : Int) (x1_0 : Int) (x1_1 : Int) (x1_2 : Int) (x2 : Int) (x3 : Int) (Q : AV → Heap → Prop) (h :
(∃ y0 : Bool,
 (Need (E 9 [] [] (.tv [] .bool y0) []) ∧
 (∃ y1 y2 y3 : Int,
 (Need (E 11 [(.tv [] (.int .i64) (10 : Int))] [] (.op (1, 0) []) [((1, 0), ⟨⟨T.tTok, (y1, (y2, (y3, ())))⟩, []⟩)]) ∧
 (∃ y4 : Nat,
 (∃ y5 : qT0,
 (∃ y6 y7 : Nat,
 (∃ y8 y9 y10 y11 : Int,
 (Need (E 10 [(.op (0, 0) [])] [((0, 0), ⟨⟨qt0, (y1, (y2, (y3, ())))⟩, []⟩)] (.op (1, 0) []) [((1, 0), ⟨⟨T.tTr, ((some (1, 1)), ())⟩, []⟩), ((1, 2), ⟨⟨(.arr (Nat.succ y4) y5.length T.tTh), y5⟩, []⟩), ((1, 1), ⟨⟨T.tAr, ((some (0, 0)), ((some ((1, 2), (y6, (0, y7)))), (y8, ())))⟩, []⟩), ((0, 0), ⟨⟨T.tTok, (y9, (y10, (y11, ())))⟩, []⟩)]) ∧
 (((false = true) →
 (Q (.tv [] .bool false) [])) ∧
 ((false = false) →
 (∃ y14 y15 : Int,
 (∃ y16 y17 : Nat,
 (∃ y18 y19 y20 y21 : Int,
 (∃ y22 : Nat,
 (∃ y23 : qT0,
 (Need (E 12 [(.op (0, 0) []), (.tv [] qt0 (x0_0, (x0_1, (x0_2, ()))))] (hq0 y6 y7 y8 y9 y10 y11 y4 y5) (.tup [(.tv [] (.int .i64) y14), (.tv [] (.int .i64) y15)]) (hq2 y16 y17 y18 y19 y20 y21 y22 y23)) ∧
 (∃ y24 y25 : Int,
 (∃ y26 y27 : Nat,
 (∃ y28 y29 y30 y31 : Int,
 (∃ y32 : Nat,
 (∃ y33 : qT0,
 (Need (E 12 [(.op (0, 0) []), (.tv [] qt0 (x1_0, (x1_1, (x1_2, ()))))] (hq0 y16 y17 y18 y19 y20 y21 y22 y23) (.tup [(.tv [] (.int .i64) y24), (.tv [] (.int .i64) y25)]) (hq2 y26 y27 y28 y29 y30 y31 y32 y33)) ∧
 (∃ y34 y35 : Int,
 (∃ y36 : Nat,
 (∃ y37 : (List Int),
 (∃ y38 y39 : Nat,
 (∃ y40 y41 y42 y43 : Int,
 (∃ y44 : Nat,
 (∃ y45 : qT0,
 (Need (E 13 [(.op (0, 0) []), (.tv [] (.int .i64) x2), (.tv [] (.int .i64) x3), (.tv [] (.sref (.int .i64)) (some ((0, 1), (0, (0, 2)))))] [((0, 0), ⟨⟨qt6, ((some (0, 2)), ())⟩, []⟩), ((0, 1), ⟨⟨(.arr 1 2 (.int .i64)), [(0 : Int), (1 : Int)]⟩, []⟩), ((0, 2), ⟨⟨(.pair .ref (.pair (.sref T.tTh) qt2)), ((some (0, 3)), ((some ((0, 4), (y26, (0, y27)))), (y28, ())))⟩, []⟩), ((0, 3), ⟨⟨qt0, (y29, (y30, (y31, ())))⟩, []⟩), ((0, 4), ⟨⟨(.arr (Nat.succ y32) y33.length T.tTh), y33⟩, []⟩)] (.tup [(.tv [] (.int .i64) y34), (.tv [] (.int .i64) y35)]) (hq4 y36 y37 y38 y39 y40 y41 y42 y43 y44 y45)) ∧
 (Need (((0 : Int) ≤ (0 : Int)) ∧ ((0 : Int) < (2 : Int))) ∧
 (Need (y36 = 0) ∧
 (Need (0 < y37.length) ∧
 (∃ y46 y47 y48 : Nat,
 (∃ y49 : (List Int),
 (Need (E 14 [(.op (0, 0) []), (.tv [] (.int .i64) y34)] (hq0 y38 y39 y40 y41 y42 y43 y44 y45) (.tv [] (.sref (.int .i64)) (some ((1, 0), (y46, (0, y47))))) (hq3 y48 y49 y38 y39 y40 y41 y42 y43 y44 y45)) ∧
 ((((decide (y35 ≠ (0 : Int))) = true) →
 (Q (.tv [] .bool false) [])) ∧
 (((decide (y35 ≠ (0 : Int))) = false) →
 (∃ y52 : Bool,
 (Need (E 15 [(.tv [] (.sref (.int .i64)) (some ((0, 0), (y46, (0, y47))))), (.tv [] qt4 [(0 : Int), (1 : Int)])] (hq1 y48 y49) (.tv [] .bool y52) (hq1 y48 y49)) ∧
 ((((!y52) = true) →
 (Q (.tv [] .bool false) [])) ∧
 (((!y52) = false) →
 (Need (((0 : Int) ≤ (0 : Int)) ∧ ((0 : Int) < (y47 : Int))) ∧
 (Need (y48 = y46) ∧
 (Need (0 < y49.length) ∧
 (∃ y55 y56 y57 : Nat,
 (∃ y58 : (List Int),
 (Need (E 16 [(.op (0, 0) []), (.tv [] (.int .i64) y34)] (hq0 y38 y39 y40 y41 y42 y43 y44 y45) (.tv [] (.sref (.int .i64)) (some ((1, 0), (y55, (0, y56))))) (hq3 y57 y58 y38 y39 y40 y41 y42 y43 y44 y45)) ∧
 ((((decide ((y56 : Int) ≠ (3 : Int))) = true) →
 (Q (.tv [] .bool false) [])) ∧
 (((decide ((y56 : Int) ≠ (3 : Int))) = false) →
 (Need (((0 : Int) ≤ (0 : Int)) ∧ ((0 : Int) < (y56 : Int))) ∧
 (Need (y57 = y55) ∧
 (Need (0 < y58.length) ∧
 (((y0 = true) →
 (∃ y62 y63 y64 : Nat,
 (∃ y65 : (List Int),
 (Need (E 14 [(.op (0, 0) []), (.tv [] (.int .i64) y34)] (hq0 y38 y39 y40 y41 y42 y43 y44 y45) (.tv [] (.sref (.int .i64)) (some ((1, 0), (y62, (0, y63))))) (hq3 y64 y65 y38 y39 y40 y41 y42 y43 y44 y45)) ∧
 (∃ y66 : Bool,
 (Need (E 15 [(.tv [] (.sref (.int .i64)) (some ((0, 0), (y62, (0, y63))))), (.tv [] qt4 [(0 : Int), (1 : Int)])] (hq1 y64 y65) (.tv [] .bool y66) (hq1 y64 y65)) ∧
 (((y66 = true) →
 (∃ y68 y69 y70 : Nat,
 (∃ y71 : (List Int),
 (Need (E 16 [(.op (0, 0) []), (.tv [] (.int .i64) y34)] (hq0 y38 y39 y40 y41 y42 y43 y44 y45) (.tv [] (.sref (.int .i64)) (some ((1, 0), (y68, (0, y69))))) (hq3 y70 y71 y38 y39 y40 y41 y42 y43 y44 y45)) ∧
 (∃ y72 : Bool,
 (Need (E 15 [(.tv [] (.sref (.int .i64)) (some ((0, 0), (y68, (0, y69))))), (.tv [] qt4 [(0 : Int), (1 : Int), (2 : Int)])] (hq1 y70 y71) (.tv [] .bool y72) (hq1 y70 y71)) ∧
 (((y72 = true) →
 (∃ y74 y75 y76 : Int,
 (Need (E 17 [(.op (0, 0) []), (.tv [] (.int .i64) (1 : Int))] (hq0 y38 y39 y40 y41 y42 y43 y44 y45) (.tv [] T.tTok (y74, (y75, (y76, ())))) (hq0 y38 y39 y40 y41 y42 y43 y44 y45)) ∧
 (((((decide (y74 = x1_0)) && ((decide (y75 = x1_1)) && ((decide (y76 = x1_2)) && true))) = true) →
 (∃ y78 : Int,
 (Need (E 18 [(.op (0, 0) []), (.tv [] (.int .i64) y34)] (hq0 y38 y39 y40 y41 y42 y43 y44 y45) (.tv [] (.int .i64) y78) (hq0 y38 y39 y40 y41 y42 y43 y44 y45)) ∧
 ((((decide (y78 = x2)) = true) →
 (∃ y80 : Int,
 (Need (E 19 [(.op (0, 0) []), (.tv [] (.int .i64) y34)] (hq0 y38 y39 y40 y41 y42 y43 y44 y45) (.tv [] (.int .i64) y80) (hq0 y38 y39 y40 y41 y42 y43 y44 y45)) ∧
 ((((decide (y80 = x3)) = true) →
 (∃ y82 : Int,
 (Need (E 18 [(.op (0, 0) []), (.tv [] (.int .i64) (0 : Int))] (hq0 y38 y39 y40 y41 y42 y43 y44 y45) (.tv [] (.int .i64) y82) (hq0 y38 y39 y40 y41 y42 y43 y44 y45)) ∧
 (Q (.tv [] .bool (decide (y82 = (-1 : Int)))) [])))) ∧
 (((decide (y80 = x3)) = false) →
 (Q (.tv [] .bool false) [])))))) ∧
 (((decide (y78 = x2)) = false) →
 (Q (.tv [] .bool false) [])))))) ∧
 ((((decide (y74 = x1_0)) && ((decide (y75 = x1_1)) && ((decide (y76 = x1_2)) && true))) = false) →
 (Q (.tv [] .bool false) [])))))) ∧
 ((y72 = false) →
 (Q (.tv [] .bool false) []))))))))) ∧
 ((y66 = false) →
 (Q (.tv [] .bool false) []))))))))) ∧
 ((y0 = false) →
 (Q (.tv [] .bool false) [])))))))))))))))))))))))))))))))))))))))))))))))))))))))))) : EvF PP orc 3 [.tv [] qt0 (x0_0, (x0_1, (x0_2, ()))), .tv [] qt0 (x1_0, (x1_1, (x1_2, ()))), .tv [] (.int .i64) x2, .tv [] (.int .i64) x3] [] Q := vc_of (by kernel_rfl) h
theorem vc9  (Q : AV → Heap → Prop) (h :
(∃ y0 y1 : (List (List Int)),
 (∃ y2 : (List (Prod Int (Prod (List Int) (Prod Int PUnit.{1})))),
 (∃ y3 y4 : (List Int),
 (∃ y5 : (List (List Int)),
 (Need (E 23 [(.tv [] (.pair (.int .u8) (.pair (.int .u8) (.pair qt8 (.pair (.slice qt8) (.pair qt8 (.pair qt8 (.pair qt8 .unit))))))) ((2 : Int), ((0 : Int), ([(0 : Int)], ([[(0 : Int), (1 : Int)]], ([], ([], ([], ()))))))))] [] (.tv [] T.tPl (y0, (y1, (y2, (y3, (y4, (y5, ()))))))) []) ∧
 (∃ y6 y7 y8 : Int,
 (Need (E 11 [(.tv [] (.int .i64) (6 : Int))] [] (.op (1, 0) []) [((1, 0), ⟨⟨T.tTok, (y6, (y7, (y8, ())))⟩, []⟩)]) ∧
 (∃ y9 : Nat,
 (∃ y10 : qT0,
 (∃ y11 y12 : Nat,
 (∃ y13 y14 y15 y16 : Int,
 (Need (E 10 [(.op (0, 0) [])] [((0, 0), ⟨⟨qt0, (y6, (y7, (y8, ())))⟩, []⟩)] (.op (1, 0) []) [((1, 0), ⟨⟨T.tTr, ((some (1, 1)), ())⟩, []⟩), ((1, 2), ⟨⟨(.arr (Nat.succ y9) y10.length T.tTh), y10⟩, []⟩), ((1, 1), ⟨⟨T.tAr, ((some (0, 0)), ((some ((1, 2), (y11, (0, y12)))), (y13, ())))⟩, []⟩), ((0, 0), ⟨⟨T.tTok, (y14, (y15, (y16, ())))⟩, []⟩)]) ∧
 (((false = true) →
 (Q (.tv [] .bool false) [])) ∧
 ((false = false) →
 (∃ y19 y20 : Int,
 (∃ y21 y22 : Nat,
 (∃ y23 y24 y25 y26 : Int,
 (∃ y27 : Nat,
 (∃ y28 : qT0,
 (Need (E 12 [(.op (0, 0) []), (.tv [] qt0 ((1 : Int), ((0 : Int), ((1 : Int), ()))))] (hq0 y11 y12 y13 y14 y15 y16 y9 y10) (.tup [(.tv [] (.int .i64) y19), (.tv [] (.int .i64) y20)]) (hq2 y21 y22 y23 y24 y25 y26 y27 y28)) ∧
 (∃ y29 y30 : Int,
 (∃ y31 y32 : Nat,
 (∃ y33 y34 y35 y36 : Int,
 (∃ y37 : Nat,
 (∃ y38 : qT0,
 (Need (E 12 [(.op (0, 0) []), (.tv [] qt0 ((2 : Int), ((1 : Int), ((2 : Int), ()))))] (hq0 y21 y22 y23 y24 y25 y26 y27 y28) (.tup [(.tv [] (.int .i64) y29), (.tv [] (.int .i64) y30)]) (hq2 y31 y32 y33 y34 y35 y36 y37 y38)) ∧
 (∃ y39 y40 : Int,
 (∃ y41 : Nat,
 (∃ y42 : (List Int),
 (∃ y43 y44 : Nat,
 (∃ y45 y46 y47 y48 : Int,
 (∃ y49 : Nat,
 (∃ y50 : qT0,
 (Need (E 13 [(.op (0, 0) []), (.tv [] (.int .i64) (1 : Int)), (.tv [] (.int .i64) (4 : Int)), (.tv [] (.sref (.int .i64)) (some ((0, 1), (0, (0, 2)))))] [((0, 0), ⟨⟨qt6, ((some (0, 2)), ())⟩, []⟩), ((0, 1), ⟨⟨(.arr 1 2 (.int .i64)), [(0 : Int), (1 : Int)]⟩, []⟩), ((0, 2), ⟨⟨(.pair .ref (.pair (.sref T.tTh) qt2)), ((some (0, 3)), ((some ((0, 4), (y31, (0, y32)))), (y33, ())))⟩, []⟩), ((0, 3), ⟨⟨qt0, (y34, (y35, (y36, ())))⟩, []⟩), ((0, 4), ⟨⟨(.arr (Nat.succ y37) y38.length T.tTh), y38⟩, []⟩)] (.tup [(.tv [] (.int .i64) y39), (.tv [] (.int .i64) y40)]) (hq4 y41 y42 y43 y44 y45 y46 y47 y48 y49 y50)) ∧
 (∃ y51 y52 : Int,
 (∃ y53 : Nat,
 (∃ y54 : (List Int),
 (∃ y55 y56 : Nat,
 (∃ y57 y58 y59 y60 : Int,
 (∃ y61 : Nat,
 (∃ y62 : qT0,
 (Need (E 13 [(.op (0, 0) []), (.tv [] (.int .i64) (1 : Int)), (.tv [] (.int .i64) (4 : Int)), (.tv [] (.sref (.int .i64)) (some ((0, 1), (0, (0, 1)))))] [((0, 0), ⟨⟨qt6, ((some (0, 2)), ())⟩, []⟩), ((0, 1), ⟨⟨(.arr 1 1 (.int .i64)), [(0 : Int)]⟩, []⟩), ((0, 2), ⟨⟨(.pair .ref (.pair (.sref T.tTh) qt2)), ((some (0, 3)), ((some ((0, 4), (y43, (0, y44)))), (y45, ())))⟩, []⟩), ((0, 3), ⟨⟨qt0, (y46, (y47, (y48, ())))⟩, []⟩), ((0, 4), ⟨⟨(.arr (Nat.succ y49) y50.length T.tTh), y50⟩, []⟩)] (.tup [(.tv [] (.int .i64) y51), (.tv [] (.int .i64) y52)]) (hq4 y53 y54 y55 y56 y57 y58 y59 y60 y61 y62)) ∧
 (∃ y63 y64 : Int,
 (∃ y65 y66 : Nat,
 (∃ y67 y68 y69 y70 : Int,
 (∃ y71 : Nat,
 (∃ y72 : qT0,
 (Need (E 12 [(.op (0, 0) []), (.tv [] qt0 ((3 : Int), ((0 : Int), ((0 : Int), ()))))] (hq0 y55 y56 y57 y58 y59 y60 y61 y62) (.tup [(.tv [] (.int .i64) y63), (.tv [] (.int .i64) y64)]) (hq2 y65 y66 y67 y68 y69 y70 y71 y72)) ∧
 ((((decide (y19 = (0 : Int))) = true) →
 ((((decide (y29 = (1 : Int))) = true) →
 ((((decide (y39 = (2 : Int))) = true) →
 ((((decide (y52 = (15 : Int))) = true) →
 ((((decide (y63 = (3 : Int))) = true) →
 ((((decide (y64 = (0 : Int))) = true) →
 (∃ y79 : (List Int),
 (Need (E 40 [(.op (0, 0) []), (.tv [] (.pair (.slice .str) (.pair (.slice .str) (.pair (.slice (.pair (.int .i64) (.pair qt4 qt2))) (.pair qt4 (.pair qt4 (.pair (.slice .str) .unit)))))) (y0, (y1, (y2, (y3, (y4, (y5, ()))))))), (.tv [] (.int .i64) (2 : Int))] (hq0 y65 y66 y67 y68 y69 y70 y71 y72) (.tv [] .str y79) (hq0 y65 y66 y67 y68 y69 y70 y71 y72)) ∧
 ((((decide (y79 = [(40 : Int), (83 : Int), (32 : Int), (97 : Int), (32 : Int), (98 : Int), (41 : Int)])) = true) →
 (∃ y81 : Int,
 (Need (E 29 [(.op (0, 0) [])] (hq0 y65 y66 y67 y68 y69 y70 y71 y72) (.tv [] (.int .i64) y81) (hq0 y65 y66 y67 y68 y69 y70 y71 y72)) ∧
 ((((decide (y81 = (6 : Int))) = true) →
 (∃ y83 : Bool,
 (Need (E 25 [(.op (0, 0) []), (.tv [] (.pair (.slice .str) (.pair (.slice .str) (.pair (.slice (.pair (.int .i64) (.pair qt4 qt2))) (.pair qt4 (.pair qt4 (.pair (.slice .str) .unit)))))) (y0, (y1, (y2, (y3, (y4, (y5, ()))))))), (.tv [] (.int .i64) (2 : Int))] (hq0 y65 y66 y67 y68 y69 y70 y71 y72) (.tv [] .bool y83) (hq0 y65 y66 y67 y68 y69 y70 y71 y72)) ∧
 (Q (.tv [] .bool y83) [])))) ∧
 (((decide (y81 = (6 : Int))) = false) →
 (Q (.tv [] .bool false) [])))))) ∧
 (((decide (y79 = [(40 : Int), (83 : Int), (32 : Int), (97 : Int), (32 : Int), (98 : Int), (41 : Int)])) = false) →
 (Q (.tv [] .bool false) [])))))) ∧
 (((decide (y64 = (0 : Int))) = false) →
 (Q (.tv [] .bool false) [])))) ∧
 (((decide (y63 = (3 : Int))) = false) →
 (Q (.tv [] .bool false) [])))) ∧
 (((decide (y52 = (15 : Int))) = false) →
 (Q (.tv [] .bool false) [])))) ∧
 (((decide (y39 = (2 : Int))) = false) →
 (Q (.tv [] .bool false) [])))) ∧
 (((decide (y29 = (1 : Int))) = false) →
 (Q (.tv [] .bool false) [])))) ∧
 (((decide (y19 = (0 : Int))) = false) →
 (Q (.tv [] .bool false) [])))))))))))))))))))))))))))))))))))))))))))))))))))) : EvF PP orc 9 [] [] Q := vc_of (by kernel_rfl) h
end Go.Am.T
