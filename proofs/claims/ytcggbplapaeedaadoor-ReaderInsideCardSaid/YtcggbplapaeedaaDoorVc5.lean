/-
  A part of the proof of a law: see the text that states it.
-/
import Derived.Test.YtcggbplapaeedaaDoorHead
set_option linter.all false
namespace Go.Am.R
open Go
set_option maxRecDepth 100000
set_option maxHeartbeats 4000000
theorem vc106 (x1_0 : Int) (x1_1 : List Int) (x1_2_0 : Int) (x1_2_1 : Int) (o0_0 : List ((Int × (List Int × ((Int × (Int × Unit)) × Unit))))) (o0_1 : Int) (o0_2_0 : List ((List Int × ((List Int × (List Int × (Bool × Unit))) × Unit)))) (o0_2_1 : List ((List Int × (List Int × (Bool × Unit))))) (o0_2_2 : List ((Int × (List qT6 × Unit)))) (o0_2_3 : List Int) (o0_2_4 : List ((List Int × (List qT6 × (List Int × (List Int × Unit)))))) (o0_5 : Bool) (o0_3 : List (List Int × Bool)) (o0_4 : List (List Int × Bool)) (Q : AV → Heap → Prop) (h :
((((decide ((10 : Int) ≤ (o0_2_2.length : Int))) = true) →
 (Q (.op (1, 0) []) (hq1 (3 : Int) x1_2_0 x1_2_1 o0_0 o0_1 o0_2_0 o0_2_1 o0_2_2 o0_2_3 o0_2_4 o0_5 o0_3 o0_4))) ∧
 (((decide ((10 : Int) ≤ (o0_2_2.length : Int))) = false) →
 (∃ y2 : Int,
 (Need (E 112 [(.tv [] .str x1_1)] [] (.tv [] (.int .i64) y2) []) ∧
 (∃ y3 : (Int → ((List qT6) → (qT2 → (Int → (qT5 → (qT7 → (qT3 → (qT6 → (qT1 → (Bool → (qT4 → (qT4 → Prop)))))))))))),
 (∃ y4 : (Int → ((List qT6) → (qT2 → (Int → (qT5 → (qT7 → (qT3 → (qT6 → (qT1 → (Bool → (qT4 → (qT4 → Nat)))))))))))),
 ((y3 y2 [] o0_0 o0_1 o0_2_0 o0_2_1 o0_2_2 o0_2_3 o0_2_4 o0_5 o0_3 o0_4) ∧
 (∀ z5 : Int,
 (∀ z6 : (List qT6),
 (∀ z7 : qT2,
 (∀ z8 : Int,
 (∀ z9 : qT5,
 (∀ z10 : qT7,
 (∀ z11 : qT3,
 (∀ z12 : qT6,
 (∀ z13 : qT1,
 (∀ z14 : Bool,
 (∀ z15 z16 : qT4,
 ((y3 z5 z6 z7 z8 z9 z10 z11 z12 z13 z14 z15 z16) →
 ((((decide ((z6.length : Int) = (0 : Int))) = true) →
 (∃ y19 : Int,
 (∃ y20 : qT6,
 (∃ y21 y22 : Int,
 (Need (E 77 [(.op (0, 0) [])] (hq0 z7 z8 z9 z10 z11 z12 z13 z14 z15 z16) (.tv [] qt1 (y19, (y20, ((y21, (y22, ())), ())))) (hq0 z7 z8 z9 z10 z11 z12 z13 z14 z15 z16)) ∧
 ((∃ y23 : qT6,
 (∃ y24 y25 y26 : Int,
 (Need (E 96 [(.op (0, 0) []), (.tv [] (.int .i64) (1 : Int))] (hq0 z7 z8 z9 z10 z11 z12 z13 z14 z15 z16) (.tup [(.tv [] .str y23), (.op (1, 0) [])]) (hq1 y24 y25 y26 z7 z8 z9 z10 z11 z12 z13 z14 z15 z16)) ∧
 (Q (.op (1, 0) []) (hq1 y24 y25 y26 z7 z8 z9 z10 z11 z12 z13 z14 z15 z16))))) ∨
 (∃ y27 : qT6,
 (∃ y28 : qT2,
 (∃ y29 : Int,
 (∃ y30 : qT5,
 (∃ y31 : qT7,
 (∃ y32 : qT3,
 (∃ y33 : qT6,
 (∃ y34 : qT1,
 (∃ y35 : Bool,
 (∃ y36 y37 : qT4,
 (Need (E 96 [(.op (0, 0) []), (.tv [] (.int .i64) (1 : Int))] (hq0 z7 z8 z9 z10 z11 z12 z13 z14 z15 z16) (.tup [(.tv [] .str y27), (.tv [] .ref (Option.none ))]) (hq0 y28 y29 y30 y31 y32 y33 y34 y35 y36 y37)) ∧
 ((((Pr.mget y37 y20 false) = true) →
 (Q (.op (1, 0) []) (hq1 (15 : Int) y21 y22 y28 y29 y30 y31 y32 y33 y34 y35 y36 y37))) ∧
 (((Pr.mget y37 y20 false) = false) →
 (Need ((z6.length + (List.length [y20])) ≤ bigN) ∧
 ((y3 z5 (z6 ++ [y20]) y28 y29 y30 y31 y32 y33 y34 y35 y36 (Pr.mset y37 y20 true)) ∧
  Need ((y4 z5 (z6 ++ [y20]) y28 y29 y30 y31 y32 y33 y34 y35 y36 (Pr.mset y37 y20 true)) < (y4 z5 z6 z7 z8 z9 z10 z11 z12 z13 z14 z15 z16))))))))))))))))))))))) ∧
 (((decide ((z6.length : Int) = (0 : Int))) = false) →
 (∃ y41 : Bool,
 (Need (E 98 [(.op (0, 0) []), (.tv [] (.int .i64) (1 : Int))] (hq0 z7 z8 z9 z10 z11 z12 z13 z14 z15 z16) (.tv [] .bool y41) (hq0 z7 z8 z9 z10 z11 z12 z13 z14 z15 z16)) ∧
 (((y41 = true) →
 (∃ y43 : Int,
 (∃ y44 : qT6,
 (∃ y45 y46 : Int,
 (Need (E 77 [(.op (0, 0) [])] (hq0 z7 z8 z9 z10 z11 z12 z13 z14 z15 z16) (.tv [] qt1 (y43, (y44, ((y45, (y46, ())), ())))) (hq0 z7 z8 z9 z10 z11 z12 z13 z14 z15 z16)) ∧
 ((∃ y47 : qT6,
 (∃ y48 y49 y50 : Int,
 (Need (E 96 [(.op (0, 0) []), (.tv [] (.int .i64) (1 : Int))] (hq0 z7 z8 z9 z10 z11 z12 z13 z14 z15 z16) (.tup [(.tv [] .str y47), (.op (1, 0) [])]) (hq1 y48 y49 y50 z7 z8 z9 z10 z11 z12 z13 z14 z15 z16)) ∧
 (Q (.op (1, 0) []) (hq1 y48 y49 y50 z7 z8 z9 z10 z11 z12 z13 z14 z15 z16))))) ∨
 (∃ y51 : qT6,
 (∃ y52 : qT2,
 (∃ y53 : Int,
 (∃ y54 : qT5,
 (∃ y55 : qT7,
 (∃ y56 : qT3,
 (∃ y57 : qT6,
 (∃ y58 : qT1,
 (∃ y59 : Bool,
 (∃ y60 y61 : qT4,
 (Need (E 96 [(.op (0, 0) []), (.tv [] (.int .i64) (1 : Int))] (hq0 z7 z8 z9 z10 z11 z12 z13 z14 z15 z16) (.tup [(.tv [] .str y51), (.tv [] .ref (Option.none ))]) (hq0 y52 y53 y54 y55 y56 y57 y58 y59 y60 y61)) ∧
 ((((Pr.mget y61 y44 false) = true) →
 (Q (.op (1, 0) []) (hq1 (15 : Int) y45 y46 y52 y53 y54 y55 y56 y57 y58 y59 y60 y61))) ∧
 (((Pr.mget y61 y44 false) = false) →
 (Need ((z6.length + (List.length [y44])) ≤ bigN) ∧
 ((y3 z5 (z6 ++ [y44]) y52 y53 y54 y55 y56 y57 y58 y59 y60 (Pr.mset y61 y44 true)) ∧
  Need ((y4 z5 (z6 ++ [y44]) y52 y53 y54 y55 y56 y57 y58 y59 y60 (Pr.mset y61 y44 true)) < (y4 z5 z6 z7 z8 z9 z10 z11 z12 z13 z14 z15 z16))))))))))))))))))))))) ∧
 ((y41 = false) →
 (Need ((z11.length + (List.length [(z5, (z6, ()))])) ≤ bigN) ∧
 (Q (.tv [] .ref (Option.none )) [((0, 0), ⟨⟨(.pair qt5 (.pair (.int .i64) (.pair qt0 (.pair (.mref .str .bool) (.pair (.mref .str .bool) qt3))))), (z7, (z8, ((z9, (z10, ((z11 ++ [(z5, (z6, ()))]), (z12, (z13, ()))))), ((some (0, 1)), ((some (0, 2)), (z14, ()))))))⟩, [[2, 0], [2, 1], [2, 2], [2, 4]]⟩), ((0, 1), ⟨⟨(.mp .str .bool), z15⟩, []⟩), ((0, 2), ⟨⟨(.mp .str .bool), z16⟩, []⟩)])))))))))))))))))))))))))))) : EvF PP orc 106 [.op (0, 0) [], .tv [] qt1 (x1_0, (x1_1, ((x1_2_0, (x1_2_1, ())), ())))] [((0, 0), ⟨⟨(.pair qt5 (.pair (.int .i64) (.pair qt0 (.pair (.mref .str .bool) (.pair (.mref .str .bool) qt3))))), (o0_0, (o0_1, ((o0_2_0, (o0_2_1, (o0_2_2, (o0_2_3, (o0_2_4, ()))))), ((some (0, 1) : Option Key), ((some (0, 2) : Option Key), (o0_5, ()))))))⟩, [[2, 0], [2, 1], [2, 2], [2, 4]]⟩), ((0, 1), ⟨⟨.mp .str .bool, o0_3⟩, []⟩), ((0, 2), ⟨⟨.mp .str .bool, o0_4⟩, []⟩)] Q := vc_of (by kernel_rfl) h
theorem vc107 (x1_0 : Int) (x1_1 : List Int) (x1_2_0 : Int) (x1_2_1 : Int) (o0_0 : List ((Int × (List Int × ((Int × (Int × Unit)) × Unit))))) (o0_1 : Int) (o0_2_0 : List ((List Int × ((List Int × (List Int × (Bool × Unit))) × Unit)))) (o0_2_1 : List ((List Int × (List Int × (Bool × Unit))))) (o0_2_2 : List ((Int × (List qT6 × Unit)))) (o0_2_3 : List Int) (o0_2_4 : List ((List Int × (List qT6 × (List Int × (List Int × Unit)))))) (o0_5 : Bool) (o0_3 : List (List Int × Bool)) (o0_4 : List (List Int × Bool)) (Q : AV → Heap → Prop) (h :
(((o0_5 = true) →
 (Q (.op (1, 0) []) (hq1 (15 : Int) x1_2_0 x1_2_1 o0_0 o0_1 o0_2_0 o0_2_1 o0_2_2 o0_2_3 o0_2_4 o0_5 o0_3 o0_4))) ∧
 ((o0_5 = false) →
 ((∃ y2 : qT6,
 (∃ y3 y4 y5 : Int,
 (Need (E 96 [(.op (0, 0) []), (.tv [] (.int .i64) (1 : Int))] (hq0 o0_0 o0_1 o0_2_0 o0_2_1 o0_2_2 o0_2_3 o0_2_4 o0_5 o0_3 o0_4) (.tup [(.tv [] .str y2), (.op (1, 0) [])]) (hq1 y3 y4 y5 o0_0 o0_1 o0_2_0 o0_2_1 o0_2_2 o0_2_3 o0_2_4 o0_5 o0_3 o0_4)) ∧
 (Q (.op (1, 0) []) [((1, 0), ⟨⟨qt2, (y3, ((y4, (y5, ())), ()))⟩, []⟩), ((0, 0), ⟨⟨(.pair qt5 (.pair (.int .i64) (.pair qt0 (.pair (.mref .str .bool) (.pair (.mref .str .bool) qt3))))), (o0_0, (o0_1, ((o0_2_0, (o0_2_1, (o0_2_2, (y2, (o0_2_4, ()))))), ((some (0, 1)), ((some (0, 2)), (true, ()))))))⟩, [[2, 0], [2, 1], [2, 2], [2, 4]]⟩), ((0, 1), ⟨⟨(.mp .str .bool), o0_3⟩, []⟩), ((0, 2), ⟨⟨(.mp .str .bool), o0_4⟩, []⟩)])))) ∨
 (∃ y6 : qT6,
 (∃ y7 : qT2,
 (∃ y8 : Int,
 (∃ y9 : qT5,
 (∃ y10 : qT7,
 (∃ y11 : qT3,
 (∃ y12 : qT6,
 (∃ y13 : qT1,
 (∃ y14 : Bool,
 (∃ y15 y16 : qT4,
 (Need (E 96 [(.op (0, 0) []), (.tv [] (.int .i64) (1 : Int))] (hq0 o0_0 o0_1 o0_2_0 o0_2_1 o0_2_2 o0_2_3 o0_2_4 o0_5 o0_3 o0_4) (.tup [(.tv [] .str y6), (.tv [] .ref (Option.none ))]) (hq0 y7 y8 y9 y10 y11 y12 y13 y14 y15 y16)) ∧
 (Q (.tv [] .ref (Option.none )) [((0, 0), ⟨⟨(.pair qt5 (.pair (.int .i64) (.pair qt0 (.pair (.mref .str .bool) (.pair (.mref .str .bool) qt3))))), (y7, (y8, ((y9, (y10, (y11, (y6, (y13, ()))))), ((some (0, 1)), ((some (0, 2)), (true, ()))))))⟩, [[2, 0], [2, 1], [2, 2], [2, 4]]⟩), ((0, 1), ⟨⟨(.mp .str .bool), y15⟩, []⟩), ((0, 2), ⟨⟨(.mp .str .bool), y16⟩, []⟩)])))))))))))))))) : EvF PP orc 107 [.op (0, 0) [], .tv [] qt1 (x1_0, (x1_1, ((x1_2_0, (x1_2_1, ())), ())))] [((0, 0), ⟨⟨(.pair qt5 (.pair (.int .i64) (.pair qt0 (.pair (.mref .str .bool) (.pair (.mref .str .bool) qt3))))), (o0_0, (o0_1, ((o0_2_0, (o0_2_1, (o0_2_2, (o0_2_3, (o0_2_4, ()))))), ((some (0, 1) : Option Key), ((some (0, 2) : Option Key), (o0_5, ()))))))⟩, [[2, 0], [2, 1], [2, 2], [2, 4]]⟩), ((0, 1), ⟨⟨.mp .str .bool, o0_3⟩, []⟩), ((0, 2), ⟨⟨.mp .str .bool, o0_4⟩, []⟩)] Q := vc_of (by kernel_rfl) h
end Go.Am.R
