/-
  A part of the proof of a law: see the text that states it.
-/
import Derived.Test.YtcggbplapaeedaaDoorHead
set_option linter.all false
namespace Go.Am.R
open Go
set_option maxRecDepth 100000
set_option maxHeartbeats 4000000
theorem vc97 (x1 : List Int) (o0_0 : List ((Int × (List Int × ((Int × (Int × Unit)) × Unit))))) (o0_1 : Int) (o0_2_0 : List ((List Int × ((List Int × (List Int × (Bool × Unit))) × Unit)))) (o0_2_1 : List ((List Int × (List Int × (Bool × Unit))))) (o0_2_2 : List ((Int × (List qT6 × Unit)))) (o0_2_3 : List Int) (o0_2_4 : List ((List Int × (List qT6 × (List Int × (List Int × Unit)))))) (o0_5 : Bool) (o0_3 : List (List Int × Bool)) (o0_4 : List (List Int × Bool)) (Q : AV → Heap → Prop) (h :
((((decide ((40 : Int) ≤ (o0_2_4.length : Int))) = true) →
 (∃ y1 y2 y3 : Int,
 (Need (E 95 [(.op (0, 0) []), (.tv [] (.int .i64) (3 : Int))] (hq0 o0_0 o0_1 o0_2_0 o0_2_1 o0_2_2 o0_2_3 o0_2_4 o0_5 o0_3 o0_4) (.op (1, 0) []) (hq1 y1 y2 y3 o0_0 o0_1 o0_2_0 o0_2_1 o0_2_2 o0_2_3 o0_2_4 o0_5 o0_3 o0_4)) ∧
 (Q (.op (1, 0) []) (hq1 y1 y2 y3 o0_0 o0_1 o0_2_0 o0_2_1 o0_2_2 o0_2_3 o0_2_4 o0_5 o0_3 o0_4))))) ∧
 (((decide ((40 : Int) ≤ (o0_2_4.length : Int))) = false) →
 (∃ y5 : (qT6 → ((List qT6) → (qT6 → (qT6 → (qT2 → (Int → (qT5 → (qT7 → (qT3 → (qT6 → (qT1 → (Bool → (qT4 → (qT4 → Prop)))))))))))))),
 (∃ y6 : (qT6 → ((List qT6) → (qT6 → (qT6 → (qT2 → (Int → (qT5 → (qT7 → (qT3 → (qT6 → (qT1 → (Bool → (qT4 → (qT4 → Nat)))))))))))))),
 ((y5 x1 [] [] [] o0_0 o0_1 o0_2_0 o0_2_1 o0_2_2 o0_2_3 o0_2_4 o0_5 o0_3 o0_4) ∧
 (∀ z7 : qT6,
 (∀ z8 : (List qT6),
 (∀ z9 z10 : qT6,
 (∀ z11 : qT2,
 (∀ z12 : Int,
 (∀ z13 : qT5,
 (∀ z14 : qT7,
 (∀ z15 : qT3,
 (∀ z16 : qT6,
 (∀ z17 : qT1,
 (∀ z18 : Bool,
 (∀ z19 z20 : qT4,
 ((y5 z7 z8 z9 z10 z11 z12 z13 z14 z15 z16 z17 z18 z19 z20) →
 (∃ y22 : Bool,
 (Need (E 98 [(.op (0, 0) []), (.tv [] (.int .i64) (1 : Int))] (hq0 z11 z12 z13 z14 z15 z16 z17 z18 z19 z20) (.tv [] .bool y22) (hq0 z11 z12 z13 z14 z15 z16 z17 z18 z19 z20)) ∧
 (((y22 = true) →
 ((((decide ((8 : Int) ≤ (z8.length : Int))) = true) →
 (∃ y25 y26 y27 : Int,
 (Need (E 95 [(.op (0, 0) []), (.tv [] (.int .i64) (3 : Int))] (hq0 z11 z12 z13 z14 z15 z16 z17 z18 z19 z20) (.op (1, 0) []) (hq1 y25 y26 y27 z11 z12 z13 z14 z15 z16 z17 z18 z19 z20)) ∧
 (Q (.op (1, 0) []) (hq1 y25 y26 y27 z11 z12 z13 z14 z15 z16 z17 z18 z19 z20))))) ∧
 (((decide ((8 : Int) ≤ (z8.length : Int))) = false) →
 (∃ y29 : Int,
 (∃ y30 : qT6,
 (∃ y31 y32 : Int,
 (Need (E 77 [(.op (0, 0) [])] (hq0 z11 z12 z13 z14 z15 z16 z17 z18 z19 z20) (.tv [] qt1 (y29, (y30, ((y31, (y32, ())), ())))) (hq0 z11 z12 z13 z14 z15 z16 z17 z18 z19 z20)) ∧
 (Need ((z8.length + (List.length [y30])) ≤ bigN) ∧
 (Need ((-9223372036854775808 ≤ (z12 + 1)) ∧ ((z12 + 1) ≤ 9223372036854775807)) ∧
 ((y5 z7 (z8 ++ [y30]) z9 z10 z11 (z12 + 1) z13 z14 z15 z16 z17 z18 z19 z20) ∧
  Need ((y6 z7 (z8 ++ [y30]) z9 z10 z11 (z12 + 1) z13 z14 z15 z16 z17 z18 z19 z20) < (y6 z7 z8 z9 z10 z11 z12 z13 z14 z15 z16 z17 z18 z19 z20)))))))))))) ∧
 ((y22 = false) →
 (∃ y34 : Bool,
 (Need (E 98 [(.op (0, 0) []), (.tv [] (.int .i64) (2 : Int))] (hq0 z11 z12 z13 z14 z15 z16 z17 z18 z19 z20) (.tv [] .bool y34) (hq0 z11 z12 z13 z14 z15 z16 z17 z18 z19 z20)) ∧
 (((y34 = true) →
 (∃ y36 : Int,
 (∃ y37 : qT6,
 (∃ y38 y39 : Int,
 (Need (E 77 [(.op (0, 0) [])] (hq0 z11 z12 z13 z14 z15 z16 z17 z18 z19 z20) (.tv [] qt1 (y36, (y37, ((y38, (y39, ())), ())))) (hq0 z11 z12 z13 z14 z15 z16 z17 z18 z19 z20)) ∧
 ((((decide (y37 = [(112 : Int), (114 : Int), (101 : Int), (99 : Int)])) = true) →
 (Need ((-9223372036854775808 ≤ (z12 + 1)) ∧ ((z12 + 1) ≤ 9223372036854775807)) ∧
 ((∃ y41 : qT6,
 (∃ y42 y43 y44 : Int,
 (Need (E 96 [(.op (0, 0) []), (.tv [] (.int .i64) (1 : Int))] (hq3 z11 z12 (1 : Int) z13 z14 z15 z16 z17 z18 z19 z20) (.tup [(.tv [] .str y41), (.op (1, 0) [])]) [((1, 0), ⟨⟨qt2, (y42, ((y43, (y44, ())), ()))⟩, []⟩), ((0, 0), ⟨⟨(.pair qt5 (.pair (.int .i64) (.pair qt0 (.pair (.mref .str .bool) (.pair (.mref .str .bool) qt3))))), (z11, ((z12 + 1), ((z13, (z14, (z15, (z16, (z17, ()))))), ((some (0, 1)), ((some (0, 2)), (z18, ()))))))⟩, [[2, 0], [2, 1], [2, 2], [2, 4]]⟩), ((0, 1), ⟨⟨(.mp .str .bool), z19⟩, []⟩), ((0, 2), ⟨⟨(.mp .str .bool), z20⟩, []⟩)]) ∧
 (Q (.op (1, 0) []) [((1, 0), ⟨⟨qt2, (y42, ((y43, (y44, ())), ()))⟩, []⟩), ((0, 0), ⟨⟨(.pair qt5 (.pair (.int .i64) (.pair qt0 (.pair (.mref .str .bool) (.pair (.mref .str .bool) qt3))))), (z11, ((z12 + 1), ((z13, (z14, (z15, (z16, (z17, ()))))), ((some (0, 1)), ((some (0, 2)), (z18, ()))))))⟩, [[2, 0], [2, 1], [2, 2], [2, 4]]⟩), ((0, 1), ⟨⟨(.mp .str .bool), z19⟩, []⟩), ((0, 2), ⟨⟨(.mp .str .bool), z20⟩, []⟩)])))) ∨
 (∃ y45 : qT6,
 (∃ y46 : qT2,
 (∃ y47 : Int,
 (∃ y48 : qT5,
 (∃ y49 : qT7,
 (∃ y50 : qT3,
 (∃ y51 : qT6,
 (∃ y52 : qT1,
 (∃ y53 : Bool,
 (∃ y54 y55 : qT4,
 (Need (E 96 [(.op (0, 0) []), (.tv [] (.int .i64) (1 : Int))] (hq3 z11 z12 (1 : Int) z13 z14 z15 z16 z17 z18 z19 z20) (.tup [(.tv [] .str y45), (.tv [] .ref (Option.none ))]) (hq0 y46 y47 y48 y49 y50 y51 y52 y53 y54 y55)) ∧
 (∃ y56 : Bool,
 (Need (E 98 [(.op (0, 0) []), (.tv [] (.int .i64) (9 : Int))] (hq0 y46 y47 y48 y49 y50 y51 y52 y53 y54 y55) (.tv [] .bool y56) (hq0 y46 y47 y48 y49 y50 y51 y52 y53 y54 y55)) ∧
 (((y56 = true) →
 (∃ y58 : Int,
 (∃ y59 : qT6,
 (∃ y60 y61 : Int,
 (Need (E 77 [(.op (0, 0) [])] (hq0 y46 y47 y48 y49 y50 y51 y52 y53 y54 y55) (.tv [] qt1 (y58, (y59, ((y60, (y61, ())), ())))) (hq0 y46 y47 y48 y49 y50 y51 y52 y53 y54 y55)) ∧
 (Need ((-9223372036854775808 ≤ (y47 + 1)) ∧ ((y47 + 1) ≤ 9223372036854775807)) ∧
 (Need ((y52.length + (List.length [(z7, (z8, (y45, (y59, ()))))])) ≤ bigN) ∧
 (Q (.tv [] .ref (Option.none )) (hq4 y46 y47 (1 : Int) y48 y49 y50 y51 y52 z7 z8 y45 y59 y53 y54 y55))))))))) ∧
 ((y56 = false) →
 (Need ((y52.length + (List.length [(z7, (z8, (y45, (z10, ()))))])) ≤ bigN) ∧
 (Q (.tv [] .ref (Option.none )) (hq5 y46 y47 y48 y49 y50 y51 y52 z7 z8 y45 z10 y53 y54 y55))))))))))))))))))))) ∧
 (((decide (y37 = [(112 : Int), (114 : Int), (101 : Int), (99 : Int)])) = false) →
 (∃ y64 : Bool,
 (Need (E 98 [(.op (0, 0) []), (.tv [] (.int .i64) (9 : Int))] (hq0 z11 z12 z13 z14 z15 z16 z17 z18 z19 z20) (.tv [] .bool y64) (hq0 z11 z12 z13 z14 z15 z16 z17 z18 z19 z20)) ∧
 (((y64 = true) →
 (∃ y66 : Int,
 (∃ y67 : qT6,
 (∃ y68 y69 : Int,
 (Need (E 77 [(.op (0, 0) [])] (hq0 z11 z12 z13 z14 z15 z16 z17 z18 z19 z20) (.tv [] qt1 (y66, (y67, ((y68, (y69, ())), ())))) (hq0 z11 z12 z13 z14 z15 z16 z17 z18 z19 z20)) ∧
 (Need ((-9223372036854775808 ≤ (z12 + 1)) ∧ ((z12 + 1) ≤ 9223372036854775807)) ∧
 (Need ((z17.length + (List.length [(z7, (z8, (z9, (y67, ()))))])) ≤ bigN) ∧
 (Q (.tv [] .ref (Option.none )) (hq4 z11 z12 (1 : Int) z13 z14 z15 z16 z17 z7 z8 z9 y67 z18 z19 z20))))))))) ∧
 ((y64 = false) →
 (Need ((z17.length + (List.length [(z7, (z8, (z9, (z10, ()))))])) ≤ bigN) ∧
 (Q (.tv [] .ref (Option.none )) (hq5 z11 z12 z13 z14 z15 z16 z17 z7 z8 z9 z10 z18 z19 z20)))))))))))))) ∧
 ((y34 = false) →
 (∃ y72 : Bool,
 (Need (E 98 [(.op (0, 0) []), (.tv [] (.int .i64) (9 : Int))] (hq0 z11 z12 z13 z14 z15 z16 z17 z18 z19 z20) (.tv [] .bool y72) (hq0 z11 z12 z13 z14 z15 z16 z17 z18 z19 z20)) ∧
 (((y72 = true) →
 (∃ y74 : Int,
 (∃ y75 : qT6,
 (∃ y76 y77 : Int,
 (Need (E 77 [(.op (0, 0) [])] (hq0 z11 z12 z13 z14 z15 z16 z17 z18 z19 z20) (.tv [] qt1 (y74, (y75, ((y76, (y77, ())), ())))) (hq0 z11 z12 z13 z14 z15 z16 z17 z18 z19 z20)) ∧
 (Need ((-9223372036854775808 ≤ (z12 + 1)) ∧ ((z12 + 1) ≤ 9223372036854775807)) ∧
 (Need ((z17.length + (List.length [(z7, (z8, (z9, (y75, ()))))])) ≤ bigN) ∧
 (Q (.tv [] .ref (Option.none )) (hq4 z11 z12 (1 : Int) z13 z14 z15 z16 z17 z7 z8 z9 y75 z18 z19 z20))))))))) ∧
 ((y72 = false) →
 (Need ((z17.length + (List.length [(z7, (z8, (z9, (z10, ()))))])) ≤ bigN) ∧
 (Q (.tv [] .ref (Option.none )) (hq5 z11 z12 z13 z14 z15 z16 z17 z7 z8 z9 z10 z18 z19 z20)))))))))))))))))))))))))))))))))) : EvF PP orc 97 [.op (0, 0) [], .tv [] .str x1] [((0, 0), ⟨⟨(.pair qt5 (.pair (.int .i64) (.pair qt0 (.pair (.mref .str .bool) (.pair (.mref .str .bool) qt3))))), (o0_0, (o0_1, ((o0_2_0, (o0_2_1, (o0_2_2, (o0_2_3, (o0_2_4, ()))))), ((some (0, 1) : Option Key), ((some (0, 2) : Option Key), (o0_5, ()))))))⟩, [[2, 0], [2, 1], [2, 2], [2, 4]]⟩), ((0, 1), ⟨⟨.mp .str .bool, o0_3⟩, []⟩), ((0, 2), ⟨⟨.mp .str .bool, o0_4⟩, []⟩)] Q := vc_of (by kernel_rfl) h
end Go.Am.R
