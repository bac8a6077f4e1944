/-
  A part of the proof of a law: see the text that states it.
-/
import Derived.Test.YtcggbplapaeedaaDoorHead
set_option linter.all false
namespace Go.Am.R
open Go
set_option maxRecDepth 100000
set_option maxHeartbeats 4000000
theorem vc3 (x0 : List Int) (Q : AV → Heap → Prop) (h :
(∃ y0 : Bool,
 (Need (E 12 [] [] (.tv [] .bool y0) []) ∧
 ((((decide ((400 : Int) < (x0.length : Int))) = true) →
 (Q (.tv [] .bool y0) [])) ∧
 (((decide ((400 : Int) < (x0.length : Int))) = false) →
 (∃ y3 : qT5,
 (∃ y4 : qT7,
 (∃ y5 : qT3,
 (∃ y6 : qT6,
 (∃ y7 : qT1,
 (∃ y8 y9 y10 : Int,
 (Need (E 13 [(.tv [] .str x0)] [] (.tup [(.tv [] qt0 (y3, (y4, (y5, (y6, (y7, ())))))), (.tv [] qt2 (y8, ((y9, (y10, ())), ())))]) []) ∧
 ((((decide (y8 ≠ (0 : Int))) = true) →
 (∃ y12 : (Bool → (Int → Prop)),
 (∃ y13 : (Bool → (Int → Nat)),
 ((y12 false (0 : Int)) ∧
 (∀ z14 : Bool,
 (∀ z15 : Int,
 ((y12 z14 z15) →
 ((((decide (z15 ≤ (x0.length : Int))) = true) →
 (((z14 = true) →
 (Need ((-9223372036854775808 ≤ (z15 + 1)) ∧ ((z15 + 1) ≤ 9223372036854775807)) ∧
 (Need (((y8, ((y9, (y10, ())), ())) = (y8, ((y9, (y10, ())), ()))) ∧ ((y3, (y4, (y5, (y6, (y7, ()))))) = (y3, (y4, (y5, (y6, (y7, ()))))))) ∧
 ((y12 true (z15 + 1)) ∧
    Need ((y13 true (z15 + 1)) < (y13 z14 z15)))))) ∧
 ((z14 = false) →
 (∃ y20 y21 : Int,
 (Need (E 14 [(.tv [] .str x0), (.tv [] (.int .i64) z15)] [] (.tv [] qt4 (y20, (y21, ()))) []) ∧
 (Need ((-9223372036854775808 ≤ (z15 + 1)) ∧ ((z15 + 1) ≤ 9223372036854775807)) ∧
 (Need (((y8, ((y9, (y10, ())), ())) = (y8, ((y9, (y10, ())), ()))) ∧ ((y3, (y4, (y5, (y6, (y7, ()))))) = (y3, (y4, (y5, (y6, (y7, ()))))))) ∧
 ((y12 ((decide (y20 = y9)) && ((decide (y21 = y10)) && true)) (z15 + 1)) ∧
   Need ((y13 ((decide (y20 = y9)) && ((decide (y21 = y10)) && true)) (z15 + 1)) < (y13 z14 z15)))))))))) ∧
 (((decide (z15 ≤ (x0.length : Int))) = false) →
 (((y0 = true) →
 (((z14 = true) →
 (∃ y25 : Bool,
 (Need (E 15 [(.tv [] qt0 (y3, (y4, (y5, (y6, (y7, ()))))))] [] (.tv [] .bool y25) []) ∧
 (Q (.tv [] .bool y25) [])))) ∧
 ((z14 = false) →
 (Q (.tv [] .bool false) [])))) ∧
 ((y0 = false) →
 (Q (.tv [] .bool false) [])))))))))))) ∧
 (((decide (y8 ≠ (0 : Int))) = false) →
 ((((decide ((y7.length : Int) = (0 : Int))) = true) →
 (Q (.tv [] .bool false) [])) ∧
 (((decide ((y7.length : Int) = (0 : Int))) = false) →
 ((((decide ((40 : Int) < (y7.length : Int))) = true) →
 (Q (.tv [] .bool false) [])) ∧
 (((decide ((40 : Int) < (y7.length : Int))) = false) →
 ((((decide (y6 = [])) = true) →
 (Q (.tv [] .bool false) [])) ∧
 (((decide (y6 = [])) = false) →
 ((((decide ((20 : Int) < (y3.length : Int))) = true) →
 (Q (.tv [] .bool false) [])) ∧
 (((decide ((20 : Int) < (y3.length : Int))) = false) →
 ((((decide ((4 : Int) < (y4.length : Int))) = true) →
 (Q (.tv [] .bool false) [])) ∧
 (((decide ((4 : Int) < (y4.length : Int))) = false) →
 ((((decide ((10 : Int) < (y5.length : Int))) = true) →
 (Q (.tv [] .bool false) [])) ∧
 (((decide ((10 : Int) < (y5.length : Int))) = false) →
 (∃ y41 : (Int → Prop),
 (∃ y42 : (Int → Nat),
 ((y41 (0 : Int)) ∧
 (∀ z43 : Int,
 ((y41 z43) →
 ((((decide (z43 < (y3.length : Int))) = true) →
 (∃ y46 : (Int → Prop),
 (∃ y47 : (Int → Nat),
 ((y46 (0 : Int)) ∧
 (∀ z48 : Int,
 ((y46 z48) →
 ((((decide (z48 < z43)) = true) →
 (Need ((0 ≤ z43) ∧ (z43 < (y3.length : Int))) ∧
 (Need ((0 ≤ z48) ∧ (z48 < (y3.length : Int))) ∧
 ((((decide ((List.getD y3 z43.toNat (([] : List Int), (([], ([], (false, ()))), ()))).1 = (List.getD y3 z48.toNat (([] : List Int), (([], ([], (false, ()))), ()))).1)) = true) →
 (Q (.tv [] .bool false) [])) ∧
 (((decide ((List.getD y3 z43.toNat (([] : List Int), (([], ([], (false, ()))), ()))).1 = (List.getD y3 z48.toNat (([] : List Int), (([], ([], (false, ()))), ()))).1)) = false) →
 (Need ((-9223372036854775808 ≤ (z48 + 1)) ∧ ((z48 + 1) ≤ 9223372036854775807)) ∧
 (Need (((y8, ((y9, (y10, ())), ())) = (y8, ((y9, (y10, ())), ()))) ∧ ((y3, (y4, (y5, (y6, (y7, ()))))) = (y3, (y4, (y5, (y6, (y7, ()))))))) ∧
 ((y46 (z48 + 1)) ∧
   Need ((y47 (z48 + 1)) < (y47 z48)))))))))) ∧
 (((decide (z48 < z43)) = false) →
 (Need ((-9223372036854775808 ≤ (z43 + 1)) ∧ ((z43 + 1) ≤ 9223372036854775807)) ∧
 (Need (((y8, ((y9, (y10, ())), ())) = (y8, ((y9, (y10, ())), ()))) ∧ ((y3, (y4, (y5, (y6, (y7, ()))))) = (y3, (y4, (y5, (y6, (y7, ()))))))) ∧
 ((y41 (z43 + 1)) ∧
  Need ((y42 (z43 + 1)) < (y42 z43))))))))))))) ∧
 (((decide (z43 < (y3.length : Int))) = false) →
 (∃ y55 : ((List qT6) → (Int → Prop)),
 (∃ y56 : ((List qT6) → (Int → Nat)),
 ((y55 [] (0 : Int)) ∧
 (∀ z57 : (List qT6),
 (∀ z58 : Int,
 ((y55 z57 z58) →
 ((((decide (z58 < (y5.length : Int))) = true) →
 (Need ((0 ≤ z58) ∧ (z58 < (y5.length : Int))) ∧
 (Need ((z57.length + (List.length (List.getD y5 z58.toNat ((0 : Int), ([], ()))).2.1)) ≤ bigN) ∧
 (Need ((0 ≤ z58) ∧ (z58 < (y5.length : Int))) ∧
 ((((decide (((List.length (List.getD y5 z58.toNat ((0 : Int), ([], ()))).2.1) : Int) = (0 : Int))) = true) →
 (Q (.tv [] .bool false) [])) ∧
 (((decide (((List.length (List.getD y5 z58.toNat ((0 : Int), ([], ()))).2.1) : Int) = (0 : Int))) = false) →
 (Need ((0 ≤ z58) ∧ (z58 < (y5.length : Int))) ∧
 ((((decide ((List.getD y5 z58.toNat ((0 : Int), ([], ()))).1 < (1 : Int))) = true) →
 (Q (.tv [] .bool false) [])) ∧
 (((decide ((List.getD y5 z58.toNat ((0 : Int), ([], ()))).1 < (1 : Int))) = false) →
 (Need ((0 ≤ z58) ∧ (z58 < (y5.length : Int))) ∧
 ((((decide ((3 : Int) < (List.getD y5 z58.toNat ((0 : Int), ([], ()))).1)) = true) →
 (Q (.tv [] .bool false) [])) ∧
 (((decide ((3 : Int) < (List.getD y5 z58.toNat ((0 : Int), ([], ()))).1)) = false) →
 (Need ((-9223372036854775808 ≤ (z58 + 1)) ∧ ((z58 + 1) ≤ 9223372036854775807)) ∧
 (Need (((y8, ((y9, (y10, ())), ())) = (y8, ((y9, (y10, ())), ()))) ∧ ((y3, (y4, (y5, (y6, (y7, ()))))) = (y3, (y4, (y5, (y6, (y7, ()))))))) ∧
 ((y55 (z57 ++ (List.getD y5 z58.toNat ((0 : Int), ([], ()))).2.1) (z58 + 1)) ∧
  Need ((y56 (z57 ++ (List.getD y5 z58.toNat ((0 : Int), ([], ()))).2.1) (z58 + 1)) < (y56 z57 z58))))))))))))))))) ∧
 (((decide (z58 < (y5.length : Int))) = false) →
 (∃ y68 : (Int → Prop),
 (∃ y69 : (Int → Nat),
 ((y68 (0 : Int)) ∧
 (∀ z70 : Int,
 ((y68 z70) →
 ((((decide (z70 < (z57.length : Int))) = true) →
 (∃ y73 : (Int → Prop),
 (∃ y74 : (Int → Nat),
 ((y73 (0 : Int)) ∧
 (∀ z75 : Int,
 ((y73 z75) →
 ((((decide (z75 < z70)) = true) →
 (Need ((0 ≤ z70) ∧ (z70 < (z57.length : Int))) ∧
 (Need ((0 ≤ z75) ∧ (z75 < (z57.length : Int))) ∧
 ((((decide ((List.getD z57 z70.toNat []) = (List.getD z57 z75.toNat []))) = true) →
 (Q (.tv [] .bool false) [])) ∧
 (((decide ((List.getD z57 z70.toNat []) = (List.getD z57 z75.toNat []))) = false) →
 (Need ((-9223372036854775808 ≤ (z75 + 1)) ∧ ((z75 + 1) ≤ 9223372036854775807)) ∧
 (Need (((y8, ((y9, (y10, ())), ())) = (y8, ((y9, (y10, ())), ()))) ∧ ((y3, (y4, (y5, (y6, (y7, ()))))) = (y3, (y4, (y5, (y6, (y7, ()))))))) ∧
 ((y73 (z75 + 1)) ∧
   Need ((y74 (z75 + 1)) < (y74 z75)))))))))) ∧
 (((decide (z75 < z70)) = false) →
 (Need ((-9223372036854775808 ≤ (z70 + 1)) ∧ ((z70 + 1) ≤ 9223372036854775807)) ∧
 (Need (((y8, ((y9, (y10, ())), ())) = (y8, ((y9, (y10, ())), ()))) ∧ ((y3, (y4, (y5, (y6, (y7, ()))))) = (y3, (y4, (y5, (y6, (y7, ()))))))) ∧
 ((y68 (z70 + 1)) ∧
  Need ((y69 (z70 + 1)) < (y69 z70))))))))))))) ∧
 (((decide (z70 < (z57.length : Int))) = false) →
 (Q (.tv [] .bool y0) []))))))))))))))))))))))))))))))))))))))))))))))))) : EvF PP orc 3 [.tv [] .str x0] [] Q := vc_of (by kernel_rfl) h
end Go.Am.R
