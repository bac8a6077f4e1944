/-
  A part of the proof of a law: see the text that states it.
-/
import Derived.Test.YtcggbplapaeedaaDoorHead
set_option linter.all false
namespace Go.Am.R
open Go
set_option maxRecDepth 100000
set_option maxHeartbeats 4000000
theorem vc5 (x0 : List (Int)) (Q : AV → Heap → Prop) (h :
(∃ y0 : Bool,
 (Need (E 12 [] [] (.tv [] .bool y0) []) ∧
 ((((decide ((25 : Int) < (x0.length : Int))) = true) →
 (Q (.tv [] .bool y0) [])) ∧
 (((decide ((25 : Int) < (x0.length : Int))) = false) →
 (∃ y3 : (qT3 → (qT5 → (Int → (Int → (Int → Prop))))),
 (∃ y4 : (qT3 → (qT5 → (Int → (Int → (Int → Nat))))),
 ((y3 (List.map (fun v5 => (((BitVec.toNat (UInt8.toBitVec v5)) : Nat) : Int)) []) [] (0 : Int) (0 : Int) (0 : Int)) ∧
 (∀ z6 : qT3,
 (∀ z7 : qT5,
 (∀ z8 z9 z10 : Int,
 ((y3 z6 z7 z8 z9 z10) →
 ((((decide (z10 < (x0.length : Int))) = true) →
 (Need ((z6.length + 7) ≤ bigN) ∧
 (Need ((0 ≤ z10) ∧ (z10 < (x0.length : Int))) ∧
 (∃ y13 : qT3,
 (Need (E 16 [(.tv [] (.int .u8) (List.getD x0 z10.toNat (0 : Int)))] [] (.tv [] .str y13) []) ∧
 (Need (((List.length (z6 ++ [(37 : Int), (116 : Int), (111 : Int), (107 : Int), (101 : Int), (110 : Int), (32 : Int)])) + y13.length) ≤ bigN) ∧
 (Need (((List.length ((z6 ++ [(37 : Int), (116 : Int), (111 : Int), (107 : Int), (101 : Int), (110 : Int), (32 : Int)]) ++ y13)) + 2) ≤ bigN) ∧
 (Need ((0 ≤ z10) ∧ (z10 < (x0.length : Int))) ∧
 (∃ y14 : qT3,
 (Need (E 16 [(.tv [] (.int .u8) (List.getD x0 z10.toNat (0 : Int)))] [] (.tv [] .str y14) []) ∧
 (Need (((List.length (((z6 ++ [(37 : Int), (116 : Int), (111 : Int), (107 : Int), (101 : Int), (110 : Int), (32 : Int)]) ++ y13) ++ [(32 : Int), (34 : Int)])) + y14.length) ≤ bigN) ∧
 (Need (((List.length ((((z6 ++ [(37 : Int), (116 : Int), (111 : Int), (107 : Int), (101 : Int), (110 : Int), (32 : Int)]) ++ y13) ++ [(32 : Int), (34 : Int)]) ++ y14)) + 2) ≤ bigN) ∧
 ((((decide (z8 ≠ (0 : Int))) = true) →
 (Need ((-9223372036854775808 ≤ (z10 + 1)) ∧ ((z10 + 1) ≤ 9223372036854775807)) ∧
 ((y3 (((((z6 ++ [(37 : Int), (116 : Int), (111 : Int), (107 : Int), (101 : Int), (110 : Int), (32 : Int)]) ++ y13) ++ [(32 : Int), (34 : Int)]) ++ y14) ++ [(34 : Int), (10 : Int)]) z7 z8 z9 (z10 + 1)) ∧
   Need ((y4 (((((z6 ++ [(37 : Int), (116 : Int), (111 : Int), (107 : Int), (101 : Int), (110 : Int), (32 : Int)]) ++ y13) ++ [(32 : Int), (34 : Int)]) ++ y14) ++ [(34 : Int), (10 : Int)]) z7 z8 z9 (z10 + 1)) < (y4 z6 z7 z8 z9 z10))))) ∧
 (((decide (z8 ≠ (0 : Int))) = false) →
 (Need ((-9223372036854775808 ≤ (z10 + 1)) ∧ ((z10 + 1) ≤ 9223372036854775807)) ∧
 (∃ y17 : (Int → (Int → Prop)),
 (∃ y18 : (Int → (Int → Nat)),
 ((y17 z8 (0 : Int)) ∧
 (∀ z19 z20 : Int,
 ((y17 z19 z20) →
 ((((decide (z20 < (z7.length : Int))) = true) →
 (Need ((0 ≤ z20) ∧ (z20 < (z7.length : Int))) ∧
 (Need ((0 ≤ z10) ∧ (z10 < (x0.length : Int))) ∧
 (∃ y23 : qT3,
 (Need (E 16 [(.tv [] (.int .u8) (List.getD x0 z10.toNat (0 : Int)))] [] (.tv [] .str y23) []) ∧
 ((((decide ((List.getD z7 z20.toNat (([] : List Int), (([], ([], (false, ()))), ()))).1 = y23)) = true) →
 (Need ((-9223372036854775808 ≤ (z20 + 1)) ∧ ((z20 + 1) ≤ 9223372036854775807)) ∧
 ((y17 (15 : Int) (z20 + 1)) ∧
    Need ((y18 (15 : Int) (z20 + 1)) < (y18 z19 z20))))) ∧
 (((decide ((List.getD z7 z20.toNat (([] : List Int), (([], ([], (false, ()))), ()))).1 = y23)) = false) →
 (Need ((-9223372036854775808 ≤ (z20 + 1)) ∧ ((z20 + 1) ≤ 9223372036854775807)) ∧
 ((y17 z19 (z20 + 1)) ∧
   Need ((y18 z19 (z20 + 1)) < (y18 z19 z20))))))))))) ∧
 (((decide (z20 < (z7.length : Int))) = false) →
 ((((decide (z19 = (0 : Int))) = true) →
 ((((decide ((z7.length : Int) = (20 : Int))) = true) →
 (Need ((0 ≤ z10) ∧ (z10 < (x0.length : Int))) ∧
 (∃ y29 : qT3,
 (Need (E 16 [(.tv [] (.int .u8) (List.getD x0 z10.toNat (0 : Int)))] [] (.tv [] .str y29) []) ∧
 (Need ((0 ≤ z10) ∧ (z10 < (x0.length : Int))) ∧
 (∃ y30 : qT3,
 (Need (E 16 [(.tv [] (.int .u8) (List.getD x0 z10.toNat (0 : Int)))] [] (.tv [] .str y30) []) ∧
 (Need ((z7.length + (List.length [(y29, ((y30, (([] : List Int), (false, ()))), ()))])) ≤ bigN) ∧
 (Need ((-9223372036854775808 ≤ (z10 + 1)) ∧ ((z10 + 1) ≤ 9223372036854775807)) ∧
 ((y3 (((((z6 ++ [(37 : Int), (116 : Int), (111 : Int), (107 : Int), (101 : Int), (110 : Int), (32 : Int)]) ++ y13) ++ [(32 : Int), (34 : Int)]) ++ y14) ++ [(34 : Int), (10 : Int)]) (z7 ++ [(y29, ((y30, ([], (false, ()))), ()))]) (3 : Int) (z10 + 1) (z10 + 1)) ∧
    Need ((y4 (((((z6 ++ [(37 : Int), (116 : Int), (111 : Int), (107 : Int), (101 : Int), (110 : Int), (32 : Int)]) ++ y13) ++ [(32 : Int), (34 : Int)]) ++ y14) ++ [(34 : Int), (10 : Int)]) (z7 ++ [(y29, ((y30, ([], (false, ()))), ()))]) (3 : Int) (z10 + 1) (z10 + 1)) < (y4 z6 z7 z8 z9 z10)))))))))))) ∧
 (((decide ((z7.length : Int) = (20 : Int))) = false) →
 (Need ((0 ≤ z10) ∧ (z10 < (x0.length : Int))) ∧
 (∃ y32 : qT3,
 (Need (E 16 [(.tv [] (.int .u8) (List.getD x0 z10.toNat (0 : Int)))] [] (.tv [] .str y32) []) ∧
 (Need ((0 ≤ z10) ∧ (z10 < (x0.length : Int))) ∧
 (∃ y33 : qT3,
 (Need (E 16 [(.tv [] (.int .u8) (List.getD x0 z10.toNat (0 : Int)))] [] (.tv [] .str y33) []) ∧
 (Need ((z7.length + (List.length [(y32, ((y33, (([] : List Int), (false, ()))), ()))])) ≤ bigN) ∧
 (Need ((-9223372036854775808 ≤ (z10 + 1)) ∧ ((z10 + 1) ≤ 9223372036854775807)) ∧
 ((y3 (((((z6 ++ [(37 : Int), (116 : Int), (111 : Int), (107 : Int), (101 : Int), (110 : Int), (32 : Int)]) ++ y13) ++ [(32 : Int), (34 : Int)]) ++ y14) ++ [(34 : Int), (10 : Int)]) (z7 ++ [(y32, ((y33, ([], (false, ()))), ()))]) z19 (z10 + 1) (z10 + 1)) ∧
   Need ((y4 (((((z6 ++ [(37 : Int), (116 : Int), (111 : Int), (107 : Int), (101 : Int), (110 : Int), (32 : Int)]) ++ y13) ++ [(32 : Int), (34 : Int)]) ++ y14) ++ [(34 : Int), (10 : Int)]) (z7 ++ [(y32, ((y33, ([], (false, ()))), ()))]) z19 (z10 + 1) (z10 + 1)) < (y4 z6 z7 z8 z9 z10)))))))))))))) ∧
 (((decide (z19 = (0 : Int))) = false) →
 (Need ((0 ≤ z10) ∧ (z10 < (x0.length : Int))) ∧
 (∃ y35 : qT3,
 (Need (E 16 [(.tv [] (.int .u8) (List.getD x0 z10.toNat (0 : Int)))] [] (.tv [] .str y35) []) ∧
 (Need ((0 ≤ z10) ∧ (z10 < (x0.length : Int))) ∧
 (∃ y36 : qT3,
 (Need (E 16 [(.tv [] (.int .u8) (List.getD x0 z10.toNat (0 : Int)))] [] (.tv [] .str y36) []) ∧
 (Need ((z7.length + (List.length [(y35, ((y36, (([] : List Int), (false, ()))), ()))])) ≤ bigN) ∧
 (Need ((-9223372036854775808 ≤ (z10 + 1)) ∧ ((z10 + 1) ≤ 9223372036854775807)) ∧
 ((y3 (((((z6 ++ [(37 : Int), (116 : Int), (111 : Int), (107 : Int), (101 : Int), (110 : Int), (32 : Int)]) ++ y13) ++ [(32 : Int), (34 : Int)]) ++ y14) ++ [(34 : Int), (10 : Int)]) (z7 ++ [(y35, ((y36, ([], (false, ()))), ()))]) z19 (z10 + 1) (z10 + 1)) ∧
  Need ((y4 (((((z6 ++ [(37 : Int), (116 : Int), (111 : Int), (107 : Int), (101 : Int), (110 : Int), (32 : Int)]) ++ y13) ++ [(32 : Int), (34 : Int)]) ++ y14) ++ [(34 : Int), (10 : Int)]) (z7 ++ [(y35, ((y36, ([], (false, ()))), ()))]) z19 (z10 + 1) (z10 + 1)) < (y4 z6 z7 z8 z9 z10))))))))))))))))))))))))))))))))))) ∧
 (((decide (z10 < (x0.length : Int))) = false) →
 (Need ((z6.length + 8) ≤ bigN) ∧
 (∃ y38 : qT5,
 (∃ y39 : qT7,
 (∃ y40 : qT4,
 (∃ y41 : qT3,
 (∃ y42 : qT1,
 (∃ y43 y44 y45 : Int,
 (Need (E 13 [(.tv [] .str (z6 ++ [(37 : Int), (37 : Int), (32 : Int), (101 : Int), (32 : Int), (58 : Int), (32 : Int), (59 : Int)]))] [] (.tup [(.tv [] qt0 (y38, (y39, (y40, (y41, (y42, ())))))), (.tv [] qt2 (y43, ((y44, (y45, ())), ())))]) []) ∧
 ((((decide (z8 ≠ (0 : Int))) = true) →
 (((y0 = true) →
 (∃ y48 : Bool,
 (Need (E 15 [(.tv [] qt0 (y38, (y39, (y40, (y41, (y42, ()))))))] [] (.tv [] .bool y48) []) ∧
 (((y48 = true) →
 (Q (.tv [] .bool ((decide (y43 = z8)) && (((decide (y44 = z9)) && ((decide (y45 = (8 : Int))) && true)) && true))) [])) ∧
 ((y48 = false) →
 (Q (.tv [] .bool false) [])))))) ∧
 ((y0 = false) →
 (Q (.tv [] .bool false) [])))) ∧
 (((decide (z8 ≠ (0 : Int))) = false) →
 (((y0 = true) →
 ((((decide (y43 = (0 : Int))) = true) →
 (∃ y55 : Bool,
 (Need (E 17 [(.tv [] qt0 (y38, (y39, (y40, (y41, (y42, ())))))), (.tv [] qt0 (z7, ([], ([], ((List.map (fun v56 => (((BitVec.toNat (UInt8.toBitVec v56)) : Nat) : Int)) [(101 : UInt8)]), ([((List.map (fun v57 => (((BitVec.toNat (UInt8.toBitVec v57)) : Nat) : Int)) [(101 : UInt8)]), ([], ([], ([], ()))))], ()))))))] [] (.tv [] .bool y55) []) ∧
 (Q (.tv [] .bool y55) [])))) ∧
 (((decide (y43 = (0 : Int))) = false) →
 (Q (.tv [] .bool false) [])))) ∧
 ((y0 = false) →
 (Q (.tv [] .bool false) []))))))))))))))))))))))))))) : EvF PP orc 5 [.tv [] (.slice (.int .u8)) x0] [] Q := vc_of (by kernel_rfl) h
end Go.Am.R
