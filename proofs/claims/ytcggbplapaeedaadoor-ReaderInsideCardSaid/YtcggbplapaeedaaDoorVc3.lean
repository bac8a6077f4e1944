/-
  A part of the proof of a law: see the text that states it.
-/
import Derived.Test.YtcggbplapaeedaaDoorHead
set_option linter.all false
namespace Go.Am.R
open Go
set_option maxRecDepth 100000
set_option maxHeartbeats 4000000
theorem vc77 (o0_0 : List ((Int × (List Int × ((Int × (Int × Unit)) × Unit))))) (o0_1 : Int) (o0_2_0 : List ((List Int × ((List Int × (List Int × (Bool × Unit))) × Unit)))) (o0_2_1 : List ((List Int × (List Int × (Bool × Unit))))) (o0_2_2 : List ((Int × (List qT6 × Unit)))) (o0_2_3 : List Int) (o0_2_4 : List ((List Int × (List qT6 × (List Int × (List Int × Unit)))))) (o0_5 : Bool) (o0_3 : List (List Int × Bool)) (o0_4 : List (List Int × Bool)) (Q : AV → Heap → Prop) (h :
((((decide ((o0_0.length : Int) ≤ o0_1)) = true) →
 (Q (.tv [] qt1 ((0 : Int), ([], (((0 : Int), ((0 : Int), ())), ())))) (hq0 o0_0 o0_1 o0_2_0 o0_2_1 o0_2_2 o0_2_3 o0_2_4 o0_5 o0_3 o0_4))) ∧
 (((decide ((o0_0.length : Int) ≤ o0_1)) = false) →
 (Need (((0 : Int) ≤ o0_1) ∧ (o0_1 < (o0_0.length : Int))) ∧
 (Q (.tv [] qt1 (List.getD o0_0 o0_1.toNat ((0 : Int), ([], (((0 : Int), ((0 : Int), ())), ()))))) (hq0 o0_0 o0_1 o0_2_0 o0_2_1 o0_2_2 o0_2_3 o0_2_4 o0_5 o0_3 o0_4)))))) : EvF PP orc 77 [.op (0, 0) []] [((0, 0), ⟨⟨(.pair qt5 (.pair (.int .i64) (.pair qt0 (.pair (.mref .str .bool) (.pair (.mref .str .bool) qt3))))), (o0_0, (o0_1, ((o0_2_0, (o0_2_1, (o0_2_2, (o0_2_3, (o0_2_4, ()))))), ((some (0, 1) : Option Key), ((some (0, 2) : Option Key), (o0_5, ()))))))⟩, [[2, 0], [2, 1], [2, 2], [2, 4]]⟩), ((0, 1), ⟨⟨.mp .str .bool, o0_3⟩, []⟩), ((0, 2), ⟨⟨.mp .str .bool, o0_4⟩, []⟩)] Q := vc_of (by kernel_rfl) h
theorem vc95 (x1 : Int) (o0_0 : List ((Int × (List Int × ((Int × (Int × Unit)) × Unit))))) (o0_1 : Int) (o0_2_0 : List ((List Int × ((List Int × (List Int × (Bool × Unit))) × Unit)))) (o0_2_1 : List ((List Int × (List Int × (Bool × Unit))))) (o0_2_2 : List ((Int × (List qT6 × Unit)))) (o0_2_3 : List Int) (o0_2_4 : List ((List Int × (List qT6 × (List Int × (List Int × Unit)))))) (o0_5 : Bool) (o0_3 : List (List Int × Bool)) (o0_4 : List (List Int × Bool)) (Q : AV → Heap → Prop) (h :
(∃ y0 : Int,
 (∃ y1 : qT6,
 (∃ y2 y3 : Int,
 (Need (E 77 [(.op (0, 0) [])] (hq0 o0_0 o0_1 o0_2_0 o0_2_1 o0_2_2 o0_2_3 o0_2_4 o0_5 o0_3 o0_4) (.tv [] qt1 (y0, (y1, ((y2, (y3, ())), ())))) (hq0 o0_0 o0_1 o0_2_0 o0_2_1 o0_2_2 o0_2_3 o0_2_4 o0_5 o0_3 o0_4)) ∧
 (Q (.op (1, 0) []) (hq1 x1 y2 y3 o0_0 o0_1 o0_2_0 o0_2_1 o0_2_2 o0_2_3 o0_2_4 o0_5 o0_3 o0_4))))))) : EvF PP orc 95 [.op (0, 0) [], .tv [] (.int .i64) x1] [((0, 0), ⟨⟨(.pair qt5 (.pair (.int .i64) (.pair qt0 (.pair (.mref .str .bool) (.pair (.mref .str .bool) qt3))))), (o0_0, (o0_1, ((o0_2_0, (o0_2_1, (o0_2_2, (o0_2_3, (o0_2_4, ()))))), ((some (0, 1) : Option Key), ((some (0, 2) : Option Key), (o0_5, ()))))))⟩, [[2, 0], [2, 1], [2, 2], [2, 4]]⟩), ((0, 1), ⟨⟨.mp .str .bool, o0_3⟩, []⟩), ((0, 2), ⟨⟨.mp .str .bool, o0_4⟩, []⟩)] Q := vc_of (by kernel_rfl) h
theorem vc98 (x1 : Int) (o0_0 : List ((Int × (List Int × ((Int × (Int × Unit)) × Unit))))) (o0_1 : Int) (o0_2_0 : List ((List Int × ((List Int × (List Int × (Bool × Unit))) × Unit)))) (o0_2_1 : List ((List Int × (List Int × (Bool × Unit))))) (o0_2_2 : List ((Int × (List qT6 × Unit)))) (o0_2_3 : List Int) (o0_2_4 : List ((List Int × (List qT6 × (List Int × (List Int × Unit)))))) (o0_5 : Bool) (o0_3 : List (List Int × Bool)) (o0_4 : List (List Int × Bool)) (Q : AV → Heap → Prop) (h :
((((decide (o0_1 < (o0_0.length : Int))) = true) →
 (∃ y1 : Int,
 (∃ y2 : qT6,
 (∃ y3 y4 : Int,
 (Need (E 77 [(.op (0, 0) [])] (hq0 o0_0 o0_1 o0_2_0 o0_2_1 o0_2_2 o0_2_3 o0_2_4 o0_5 o0_3 o0_4) (.tv [] qt1 (y1, (y2, ((y3, (y4, ())), ())))) (hq0 o0_0 o0_1 o0_2_0 o0_2_1 o0_2_2 o0_2_3 o0_2_4 o0_5 o0_3 o0_4)) ∧
 (Q (.tv [] .bool (decide (y1 = x1))) (hq0 o0_0 o0_1 o0_2_0 o0_2_1 o0_2_2 o0_2_3 o0_2_4 o0_5 o0_3 o0_4))))))) ∧
 (((decide (o0_1 < (o0_0.length : Int))) = false) →
 (Q (.tv [] .bool false) (hq0 o0_0 o0_1 o0_2_0 o0_2_1 o0_2_2 o0_2_3 o0_2_4 o0_5 o0_3 o0_4))))) : EvF PP orc 98 [.op (0, 0) [], .tv [] (.int .i64) x1] [((0, 0), ⟨⟨(.pair qt5 (.pair (.int .i64) (.pair qt0 (.pair (.mref .str .bool) (.pair (.mref .str .bool) qt3))))), (o0_0, (o0_1, ((o0_2_0, (o0_2_1, (o0_2_2, (o0_2_3, (o0_2_4, ()))))), ((some (0, 1) : Option Key), ((some (0, 2) : Option Key), (o0_5, ()))))))⟩, [[2, 0], [2, 1], [2, 2], [2, 4]]⟩), ((0, 1), ⟨⟨.mp .str .bool, o0_3⟩, []⟩), ((0, 2), ⟨⟨.mp .str .bool, o0_4⟩, []⟩)] Q := vc_of (by kernel_rfl) h
theorem vc96 (x1 : Int) (o0_0 : List ((Int × (List Int × ((Int × (Int × Unit)) × Unit))))) (o0_1 : Int) (o0_2_0 : List ((List Int × ((List Int × (List Int × (Bool × Unit))) × Unit)))) (o0_2_1 : List ((List Int × (List Int × (Bool × Unit))))) (o0_2_2 : List ((Int × (List qT6 × Unit)))) (o0_2_3 : List Int) (o0_2_4 : List ((List Int × (List qT6 × (List Int × (List Int × Unit)))))) (o0_5 : Bool) (o0_3 : List (List Int × Bool)) (o0_4 : List (List Int × Bool)) (Q : AV → Heap → Prop) (h :
(∃ y0 : Int,
 (∃ y1 : qT6,
 (∃ y2 y3 : Int,
 (Need (E 77 [(.op (0, 0) [])] (hq0 o0_0 o0_1 o0_2_0 o0_2_1 o0_2_2 o0_2_3 o0_2_4 o0_5 o0_3 o0_4) (.tv [] qt1 (y0, (y1, ((y2, (y3, ())), ())))) (hq0 o0_0 o0_1 o0_2_0 o0_2_1 o0_2_2 o0_2_3 o0_2_4 o0_5 o0_3 o0_4)) ∧
 ((((decide (y0 ≠ x1)) = true) →
 (∃ y5 y6 y7 : Int,
 (Need (E 95 [(.op (0, 0) []), (.tv [] (.int .i64) (14 : Int))] (hq0 o0_0 o0_1 o0_2_0 o0_2_1 o0_2_2 o0_2_3 o0_2_4 o0_5 o0_3 o0_4) (.op (1, 0) []) (hq1 y5 y6 y7 o0_0 o0_1 o0_2_0 o0_2_1 o0_2_2 o0_2_3 o0_2_4 o0_5 o0_3 o0_4)) ∧
 (Q (.tup [(.tv [] .str (List.map (fun v8 => (((BitVec.toNat (UInt8.toBitVec v8)) : Nat) : Int)) [])), (.op (1, 0) [])]) (hq1 y5 y6 y7 o0_0 o0_1 o0_2_0 o0_2_1 o0_2_2 o0_2_3 o0_2_4 o0_5 o0_3 o0_4))))) ∧
 (((decide (y0 ≠ x1)) = false) →
 (Need ((-9223372036854775808 ≤ (o0_1 + (1 : Int))) ∧ ((o0_1 + (1 : Int)) ≤ 9223372036854775807)) ∧
 (Q (.tup [(.tv [] .str y1), (.tv [] .ref (Option.none ))]) (hq3 o0_0 o0_1 (1 : Int) o0_2_0 o0_2_1 o0_2_2 o0_2_3 o0_2_4 o0_5 o0_3 o0_4)))))))))) : EvF PP orc 96 [.op (0, 0) [], .tv [] (.int .i64) x1] [((0, 0), ⟨⟨(.pair qt5 (.pair (.int .i64) (.pair qt0 (.pair (.mref .str .bool) (.pair (.mref .str .bool) qt3))))), (o0_0, (o0_1, ((o0_2_0, (o0_2_1, (o0_2_2, (o0_2_3, (o0_2_4, ()))))), ((some (0, 1) : Option Key), ((some (0, 2) : Option Key), (o0_5, ()))))))⟩, [[2, 0], [2, 1], [2, 2], [2, 4]]⟩), ((0, 1), ⟨⟨.mp .str .bool, o0_3⟩, []⟩), ((0, 2), ⟨⟨.mp .str .bool, o0_4⟩, []⟩)] Q := vc_of (by kernel_rfl) h
theorem vc112 (x0 : List Int) (Q : AV → Heap → Prop) (h :
((((decide (x0 = [(108 : Int), (101 : Int), (102 : Int), (116 : Int)])) = true) →
 (Q (.tv [] (.int .i64) (1 : Int)) [])) ∧
 (((decide (x0 = [(108 : Int), (101 : Int), (102 : Int), (116 : Int)])) = false) →
 ((((decide (x0 = [(114 : Int), (105 : Int), (103 : Int), (104 : Int), (116 : Int)])) = true) →
 (Q (.tv [] (.int .i64) (2 : Int)) [])) ∧
 (((decide (x0 = [(114 : Int), (105 : Int), (103 : Int), (104 : Int), (116 : Int)])) = false) →
 (Q (.tv [] (.int .i64) (3 : Int)) [])))))) : EvF PP orc 112 [.tv [] .str x0] [] Q := vc_of (by kernel_rfl) h
theorem vc94  (Q : AV → Heap → Prop) (h :
(Q (.tv [] (.mref .str .fnc) (some (1, 0))) [((1, 0), ⟨⟨(.mp .str .fnc), (Pr.mset (Pr.mset (Pr.mset (Pr.mset (Pr.mset (Pr.mset [] (List.map (fun v0 => (((BitVec.toNat (UInt8.toBitVec v0)) : Nat) : Int)) [(116 : UInt8), (111 : UInt8), (107 : UInt8), (101 : UInt8), (110 : UInt8)]) (some 104)) (List.map (fun v1 => (((BitVec.toNat (UInt8.toBitVec v1)) : Nat) : Int)) [(115 : UInt8), (107 : UInt8), (105 : UInt8), (112 : UInt8)]) (some 105)) (List.map (fun v2 => (((BitVec.toNat (UInt8.toBitVec v2)) : Nat) : Int)) [(108 : UInt8), (101 : UInt8), (102 : UInt8), (116 : UInt8)]) (some 106)) (List.map (fun v3 => (((BitVec.toNat (UInt8.toBitVec v3)) : Nat) : Int)) [(114 : UInt8), (105 : UInt8), (103 : UInt8), (104 : UInt8), (116 : UInt8)]) (some 106)) (List.map (fun v4 => (((BitVec.toNat (UInt8.toBitVec v4)) : Nat) : Int)) [(110 : UInt8), (111 : UInt8), (110 : UInt8), (97 : UInt8), (115 : UInt8), (115 : UInt8), (111 : UInt8), (99 : UInt8)]) (some 106)) (List.map (fun v5 => (((BitVec.toNat (UInt8.toBitVec v5)) : Nat) : Int)) [(115 : UInt8), (116 : UInt8), (97 : UInt8), (114 : UInt8), (116 : UInt8)]) (some 107))⟩, []⟩)])) : EvF PP orc 94 [] [] Q := vc_of (by kernel_rfl) h
end Go.Am.R
