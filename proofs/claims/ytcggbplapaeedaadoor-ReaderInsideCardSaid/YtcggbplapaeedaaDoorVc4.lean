/-
  A part of the proof of a law: see the text that states it.
-/
import Derived.Test.YtcggbplapaeedaaDoorHead
set_option linter.all false
namespace Go.Am.R
open Go
set_option maxRecDepth 100000
set_option maxHeartbeats 4000000
theorem vc111 (o0_0 : List ((Int × (List Int × ((Int × (Int × Unit)) × Unit))))) (o0_1 : Int) (o0_2_0 : List ((List Int × ((List Int × (List Int × (Bool × Unit))) × Unit)))) (o0_2_1 : List ((List Int × (List Int × (Bool × Unit))))) (o0_2_2 : List ((Int × (List qT6 × Unit)))) (o0_2_3 : List Int) (o0_2_4 : List ((List Int × (List qT6 × (List Int × (List Int × Unit)))))) (o0_5 : Bool) (o0_3 : List (List Int × Bool)) (o0_4 : List (List Int × Bool)) (Q : AV → Heap → Prop) (h :
(∃ y0 : Bool,
 (Need (E 98 [(.op (0, 0) []), (.tv [] (.int .i64) (3 : Int))] (hq0 o0_0 o0_1 o0_2_0 o0_2_1 o0_2_2 o0_2_3 o0_2_4 o0_5 o0_3 o0_4) (.tv [] .bool y0) (hq0 o0_0 o0_1 o0_2_0 o0_2_1 o0_2_2 o0_2_3 o0_2_4 o0_5 o0_3 o0_4)) ∧
 (((y0 = true) →
 ((∃ y2 : qT6,
 (∃ y3 y4 y5 : Int,
 (Need (E 96 [(.op (0, 0) []), (.tv [] (.int .i64) (3 : Int))] (hq0 o0_0 o0_1 o0_2_0 o0_2_1 o0_2_2 o0_2_3 o0_2_4 o0_5 o0_3 o0_4) (.tup [(.tv [] .str y2), (.op (1, 0) [])]) (hq1 y3 y4 y5 o0_0 o0_1 o0_2_0 o0_2_1 o0_2_2 o0_2_3 o0_2_4 o0_5 o0_3 o0_4)) ∧
 (Q (.tup [(.tv [] (.pair .str (.pair .str qt3)) (y2, ([], (false, ())))), (.tv [] .ref (Option.none ))]) (hq0 o0_0 o0_1 o0_2_0 o0_2_1 o0_2_2 o0_2_3 o0_2_4 o0_5 o0_3 o0_4))))) ∨
 (∃ y6 : qT6,
 (∃ y7 : qT2,
 (∃ y8 : Int,
 (∃ y9 : qT5,
 (∃ y10 : qT7,
 (∃ y11 : qT3,
 (∃ y12 : qT6,
 (∃ y13 : qT1,
 (∃ y14 : Bool,
 (∃ y15 y16 : qT4,
 (Need (E 96 [(.op (0, 0) []), (.tv [] (.int .i64) (3 : Int))] (hq0 o0_0 o0_1 o0_2_0 o0_2_1 o0_2_2 o0_2_3 o0_2_4 o0_5 o0_3 o0_4) (.tup [(.tv [] .str y6), (.tv [] .ref (Option.none ))]) (hq0 y7 y8 y9 y10 y11 y12 y13 y14 y15 y16)) ∧
 (Q (.tup [(.tv [] (.pair .str (.pair .str qt3)) (y6, ([], (false, ())))), (.tv [] .ref (Option.none ))]) (hq0 y7 y8 y9 y10 y11 y12 y13 y14 y15 y16))))))))))))))) ∧
 ((y0 = false) →
 ((∃ y18 : qT6,
 (∃ y19 y20 y21 : Int,
 (Need (E 96 [(.op (0, 0) []), (.tv [] (.int .i64) (4 : Int))] (hq0 o0_0 o0_1 o0_2_0 o0_2_1 o0_2_2 o0_2_3 o0_2_4 o0_5 o0_3 o0_4) (.tup [(.tv [] .str y18), (.op (1, 0) [])]) (hq1 y19 y20 y21 o0_0 o0_1 o0_2_0 o0_2_1 o0_2_2 o0_2_3 o0_2_4 o0_5 o0_3 o0_4)) ∧
 (Q (.tup [(.tv [] (.pair .str (.pair .str qt3)) ([], ([], (false, ())))), (.op (1, 0) [])]) (hq1 y19 y20 y21 o0_0 o0_1 o0_2_0 o0_2_1 o0_2_2 o0_2_3 o0_2_4 o0_5 o0_3 o0_4))))) ∨
 (∃ y22 : qT6,
 (∃ y23 : qT2,
 (∃ y24 : Int,
 (∃ y25 : qT5,
 (∃ y26 : qT7,
 (∃ y27 : qT3,
 (∃ y28 : qT6,
 (∃ y29 : qT1,
 (∃ y30 : Bool,
 (∃ y31 y32 : qT4,
 (Need (E 96 [(.op (0, 0) []), (.tv [] (.int .i64) (4 : Int))] (hq0 o0_0 o0_1 o0_2_0 o0_2_1 o0_2_2 o0_2_3 o0_2_4 o0_5 o0_3 o0_4) (.tup [(.tv [] .str y22), (.tv [] .ref (Option.none ))]) (hq0 y23 y24 y25 y26 y27 y28 y29 y30 y31 y32)) ∧
 (∃ y33 : Bool,
 (Need (E 98 [(.op (0, 0) []), (.tv [] (.int .i64) (5 : Int))] (hq0 y23 y24 y25 y26 y27 y28 y29 y30 y31 y32) (.tv [] .bool y33) (hq0 y23 y24 y25 y26 y27 y28 y29 y30 y31 y32)) ∧
 (((y33 = true) →
 (Need ((-9223372036854775808 ≤ (y24 + 1)) ∧ ((y24 + 1) ≤ 9223372036854775807)) ∧
 (Q (.tup [(.tv [] (.pair .str (.pair .str qt3)) ([], (y22, (y33, ())))), (.tv [] .ref (Option.none ))]) (hq3 y23 y24 (1 : Int) y25 y26 y27 y28 y29 y30 y31 y32)))) ∧
 ((y33 = false) →
 (Q (.tup [(.tv [] (.pair .str (.pair .str qt3)) ([], (y22, (y33, ())))), (.tv [] .ref (Option.none ))]) (hq0 y23 y24 y25 y26 y27 y28 y29 y30 y31 y32))))))))))))))))))))))) : EvF PP orc 111 [.op (0, 0) []] [((0, 0), ⟨⟨(.pair qt5 (.pair (.int .i64) (.pair qt0 (.pair (.mref .str .bool) (.pair (.mref .str .bool) qt3))))), (o0_0, (o0_1, ((o0_2_0, (o0_2_1, (o0_2_2, (o0_2_3, (o0_2_4, ()))))), ((some (0, 1) : Option Key), ((some (0, 2) : Option Key), (o0_5, ()))))))⟩, [[2, 0], [2, 1], [2, 2], [2, 4]]⟩), ((0, 1), ⟨⟨.mp .str .bool, o0_3⟩, []⟩), ((0, 2), ⟨⟨.mp .str .bool, o0_4⟩, []⟩)] Q := vc_of (by kernel_rfl) h
theorem vc104 (x1_0 : Int) (x1_1 : List Int) (x1_2_0 : Int) (x1_2_1 : Int) (o0_0 : List ((Int × (List Int × ((Int × (Int × Unit)) × Unit))))) (o0_1 : Int) (o0_2_0 : List ((List Int × ((List Int × (List Int × (Bool × Unit))) × Unit)))) (o0_2_1 : List ((List Int × (List Int × (Bool × Unit))))) (o0_2_2 : List ((Int × (List qT6 × Unit)))) (o0_2_3 : List Int) (o0_2_4 : List ((List Int × (List qT6 × (List Int × (List Int × Unit)))))) (o0_5 : Bool) (o0_3 : List (List Int × Bool)) (o0_4 : List (List Int × Bool)) (Q : AV → Heap → Prop) (h :
(∃ y0 : Int,
 (∃ y1 : qT6,
 (∃ y2 y3 : Int,
 (Need (E 77 [(.op (0, 0) [])] (hq0 o0_0 o0_1 o0_2_0 o0_2_1 o0_2_2 o0_2_3 o0_2_4 o0_5 o0_3 o0_4) (.tv [] qt1 (y0, (y1, ((y2, (y3, ())), ())))) (hq0 o0_0 o0_1 o0_2_0 o0_2_1 o0_2_2 o0_2_3 o0_2_4 o0_5 o0_3 o0_4)) ∧
 ((∃ y4 : qT6,
 (∃ y5 y6 y7 : Int,
 (Need (E 96 [(.op (0, 0) []), (.tv [] (.int .i64) (1 : Int))] (hq0 o0_0 o0_1 o0_2_0 o0_2_1 o0_2_2 o0_2_3 o0_2_4 o0_5 o0_3 o0_4) (.tup [(.tv [] .str y4), (.op (1, 0) [])]) (hq1 y5 y6 y7 o0_0 o0_1 o0_2_0 o0_2_1 o0_2_2 o0_2_3 o0_2_4 o0_5 o0_3 o0_4)) ∧
 (Q (.op (1, 0) []) (hq1 y5 y6 y7 o0_0 o0_1 o0_2_0 o0_2_1 o0_2_2 o0_2_3 o0_2_4 o0_5 o0_3 o0_4))))) ∨
 (∃ y8 : qT6,
 (∃ y9 : qT2,
 (∃ y10 : Int,
 (∃ y11 : qT5,
 (∃ y12 : qT7,
 (∃ y13 : qT3,
 (∃ y14 : qT6,
 (∃ y15 : qT1,
 (∃ y16 : Bool,
 (∃ y17 y18 : qT4,
 (Need (E 96 [(.op (0, 0) []), (.tv [] (.int .i64) (1 : Int))] (hq0 o0_0 o0_1 o0_2_0 o0_2_1 o0_2_2 o0_2_3 o0_2_4 o0_5 o0_3 o0_4) (.tup [(.tv [] .str y8), (.tv [] .ref (Option.none ))]) (hq0 y9 y10 y11 y12 y13 y14 y15 y16 y17 y18)) ∧
 ((((Pr.mget y17 y1 false) = true) →
 (Q (.op (1, 0) []) (hq1 (15 : Int) y2 y3 y9 y10 y11 y12 y13 y14 y15 y16 y17 y18))) ∧
 (((Pr.mget y17 y1 false) = false) →
 ((((decide ((20 : Int) ≤ (y11.length : Int))) = true) →
 (Q (.op (1, 0) []) (hq1 (3 : Int) y2 y3 y9 y10 y11 y12 y13 y14 y15 y16 y17 y18))) ∧
 (((decide ((20 : Int) ≤ (y11.length : Int))) = false) →
 ((∃ y23 y24 : qT6,
 (∃ y25 : Bool,
 (∃ y26 y27 y28 : Int,
 (Need (E 111 [(.op (0, 0) [])] (hq0 y9 y10 y11 y12 y13 y14 y15 y16 y17 y18) (.tup [(.tv [] (.pair .str (.pair .str qt3)) (y23, (y24, (y25, ())))), (.op (1, 0) [])]) (hq1 y26 y27 y28 y9 y10 y11 y12 y13 y14 y15 y16 y17 y18)) ∧
 (Q (.op (1, 0) []) (hq1 y26 y27 y28 y9 y10 y11 y12 y13 y14 y15 y16 y17 y18)))))) ∨
 (∃ y29 y30 : qT6,
 (∃ y31 : Bool,
 (∃ y32 : qT2,
 (∃ y33 : Int,
 (∃ y34 : qT5,
 (∃ y35 : qT7,
 (∃ y36 : qT3,
 (∃ y37 : qT6,
 (∃ y38 : qT1,
 (∃ y39 : Bool,
 (∃ y40 y41 : qT4,
 (Need (E 111 [(.op (0, 0) [])] (hq0 y9 y10 y11 y12 y13 y14 y15 y16 y17 y18) (.tup [(.tv [] (.pair .str (.pair .str qt3)) (y29, (y30, (y31, ())))), (.tv [] .ref (Option.none ))]) (hq0 y32 y33 y34 y35 y36 y37 y38 y39 y40 y41)) ∧
 (Need ((y34.length + (List.length [(y1, ((y29, (y30, (y31, ()))), ()))])) ≤ bigN) ∧
 (Q (.tv [] .ref (Option.none )) [((0, 0), ⟨⟨(.pair qt5 (.pair (.int .i64) (.pair qt0 (.pair (.mref .str .bool) (.pair (.mref .str .bool) qt3))))), (y32, (y33, (((y34 ++ [(y1, ((y29, (y30, (y31, ()))), ()))]), (y35, (y36, (y37, (y38, ()))))), ((some (0, 1)), ((some (0, 2)), (y39, ()))))))⟩, [[2, 0], [2, 1], [2, 2], [2, 4]]⟩), ((0, 1), ⟨⟨(.mp .str .bool), (Pr.mset y40 y1 true)⟩, []⟩), ((0, 2), ⟨⟨(.mp .str .bool), y41⟩, []⟩)])))))))))))))))))))))))))))))))))))) : EvF PP orc 104 [.op (0, 0) [], .tv [] qt1 (x1_0, (x1_1, ((x1_2_0, (x1_2_1, ())), ())))] [((0, 0), ⟨⟨(.pair qt5 (.pair (.int .i64) (.pair qt0 (.pair (.mref .str .bool) (.pair (.mref .str .bool) qt3))))), (o0_0, (o0_1, ((o0_2_0, (o0_2_1, (o0_2_2, (o0_2_3, (o0_2_4, ()))))), ((some (0, 1) : Option Key), ((some (0, 2) : Option Key), (o0_5, ()))))))⟩, [[2, 0], [2, 1], [2, 2], [2, 4]]⟩), ((0, 1), ⟨⟨.mp .str .bool, o0_3⟩, []⟩), ((0, 2), ⟨⟨.mp .str .bool, o0_4⟩, []⟩)] Q := vc_of (by kernel_rfl) h
theorem vc105 (x1_0 : Int) (x1_1 : List Int) (x1_2_0 : Int) (x1_2_1 : Int) (o0_0 : List ((Int × (List Int × ((Int × (Int × Unit)) × Unit))))) (o0_1 : Int) (o0_2_0 : List ((List Int × ((List Int × (List Int × (Bool × Unit))) × Unit)))) (o0_2_1 : List ((List Int × (List Int × (Bool × Unit))))) (o0_2_2 : List ((Int × (List qT6 × Unit)))) (o0_2_3 : List Int) (o0_2_4 : List ((List Int × (List qT6 × (List Int × (List Int × Unit)))))) (o0_5 : Bool) (o0_3 : List (List Int × Bool)) (o0_4 : List (List Int × Bool)) (Q : AV → Heap → Prop) (h :
((((decide ((4 : Int) ≤ (o0_2_1.length : Int))) = true) →
 (Q (.op (1, 0) []) (hq1 (3 : Int) x1_2_0 x1_2_1 o0_0 o0_1 o0_2_0 o0_2_1 o0_2_2 o0_2_3 o0_2_4 o0_5 o0_3 o0_4))) ∧
 (((decide ((4 : Int) ≤ (o0_2_1.length : Int))) = false) →
 ((∃ y2 y3 : qT6,
 (∃ y4 : Bool,
 (∃ y5 y6 y7 : Int,
 (Need (E 111 [(.op (0, 0) [])] (hq0 o0_0 o0_1 o0_2_0 o0_2_1 o0_2_2 o0_2_3 o0_2_4 o0_5 o0_3 o0_4) (.tup [(.tv [] (.pair .str (.pair .str qt3)) (y2, (y3, (y4, ())))), (.op (1, 0) [])]) (hq1 y5 y6 y7 o0_0 o0_1 o0_2_0 o0_2_1 o0_2_2 o0_2_3 o0_2_4 o0_5 o0_3 o0_4)) ∧
 (Q (.op (1, 0) []) (hq1 y5 y6 y7 o0_0 o0_1 o0_2_0 o0_2_1 o0_2_2 o0_2_3 o0_2_4 o0_5 o0_3 o0_4)))))) ∨
 (∃ y8 y9 : qT6,
 (∃ y10 : Bool,
 (∃ y11 : qT2,
 (∃ y12 : Int,
 (∃ y13 : qT5,
 (∃ y14 : qT7,
 (∃ y15 : qT3,
 (∃ y16 : qT6,
 (∃ y17 : qT1,
 (∃ y18 : Bool,
 (∃ y19 y20 : qT4,
 (Need (E 111 [(.op (0, 0) [])] (hq0 o0_0 o0_1 o0_2_0 o0_2_1 o0_2_2 o0_2_3 o0_2_4 o0_5 o0_3 o0_4) (.tup [(.tv [] (.pair .str (.pair .str qt3)) (y8, (y9, (y10, ())))), (.tv [] .ref (Option.none ))]) (hq0 y11 y12 y13 y14 y15 y16 y17 y18 y19 y20)) ∧
 (Need ((y14.length + (List.length [(y8, (y9, (y10, ())))])) ≤ bigN) ∧
 (Q (.tv [] .ref (Option.none )) [((0, 0), ⟨⟨(.pair qt5 (.pair (.int .i64) (.pair qt0 (.pair (.mref .str .bool) (.pair (.mref .str .bool) qt3))))), (y11, (y12, ((y13, ((y14 ++ [(y8, (y9, (y10, ())))]), (y15, (y16, (y17, ()))))), ((some (0, 1)), ((some (0, 2)), (y18, ()))))))⟩, [[2, 0], [2, 1], [2, 2], [2, 4]]⟩), ((0, 1), ⟨⟨(.mp .str .bool), y19⟩, []⟩), ((0, 2), ⟨⟨(.mp .str .bool), y20⟩, []⟩)])))))))))))))))))) : EvF PP orc 105 [.op (0, 0) [], .tv [] qt1 (x1_0, (x1_1, ((x1_2_0, (x1_2_1, ())), ())))] [((0, 0), ⟨⟨(.pair qt5 (.pair (.int .i64) (.pair qt0 (.pair (.mref .str .bool) (.pair (.mref .str .bool) qt3))))), (o0_0, (o0_1, ((o0_2_0, (o0_2_1, (o0_2_2, (o0_2_3, (o0_2_4, ()))))), ((some (0, 1) : Option Key), ((some (0, 2) : Option Key), (o0_5, ()))))))⟩, [[2, 0], [2, 1], [2, 2], [2, 4]]⟩), ((0, 1), ⟨⟨.mp .str .bool, o0_3⟩, []⟩), ((0, 2), ⟨⟨.mp .str .bool, o0_4⟩, []⟩)] Q := vc_of (by kernel_rfl) h
end Go.Am.R
