/-
  A part of the proof of a law: see the text that states it.
-/
import Derived.Test.YtcggbplapaeedaaDoorHead
set_option linter.all false
namespace Go.Am.R
open Go
set_option maxRecDepth 100000
set_option maxHeartbeats 4000000
theorem vc4 (x0 : List (Int)) (x1 : List (List (Int))) (x2 : List (Bool)) (Q : AV → Heap → Prop) (h :
(∃ y0 : Bool,
 (Need (E 12 [] [] (.tv [] .bool y0) []) ∧
 ((((decide ((x0.length : Int) < (1 : Int))) = true) →
 (Q (.tv [] .bool y0) [])) ∧
 (((decide ((x0.length : Int) < (1 : Int))) = false) →
 ((((decide ((12 : Int) < (x0.length : Int))) = true) →
 (Q (.tv [] .bool y0) [])) ∧
 (((decide ((12 : Int) < (x0.length : Int))) = false) →
 ((((decide ((x1.length : Int) ≠ (x0.length : Int))) = true) →
 (Q (.tv [] .bool y0) [])) ∧
 (((decide ((x1.length : Int) ≠ (x0.length : Int))) = false) →
 (∃ y7 : (qT3 → (qT3 → (qT1 → (Int → Prop)))),
 (∃ y8 : (qT3 → (qT3 → (qT1 → (Int → Nat)))),
 ((y7 (List.map (fun v9 => (((BitVec.toNat (UInt8.toBitVec v9)) : Nat) : Int)) [(37 : UInt8), (37 : UInt8)]) (List.map (fun v10 => (((BitVec.toNat (UInt8.toBitVec v10)) : Nat) : Int)) []) [] (0 : Int)) ∧
 (∀ z11 z12 : qT3,
 (∀ z13 : qT1,
 (∀ z14 : Int,
 ((y7 z11 z12 z13 z14) →
 ((((decide (z14 < (x0.length : Int))) = true) →
 (Need ((0 ≤ z14) ∧ (z14 < (x1.length : Int))) ∧
 ((((decide ((8 : Int) < ((List.length (List.getD x1 z14.toNat [])) : Int))) = true) →
 (Q (.tv [] .bool y0) [])) ∧
 (((decide ((8 : Int) < ((List.length (List.getD x1 z14.toNat [])) : Int))) = false) →
 ((((decide (z14 = (0 : Int))) = true) →
 (Need ((0 ≤ z14) ∧ (z14 < (x0.length : Int))) ∧
 (∃ y20 : qT3,
 (Need (E 16 [(.tv [] (.int .u8) (List.getD x0 z14.toNat (0 : Int)))] [] (.tv [] .str y20) []) ∧
 ((((decide (0 < z14)) = true) →
 (Need ((z11.length + 2) ≤ bigN) ∧
 (Need (((List.length (z11 ++ [(32 : Int), (59 : Int)])) + 1) ≤ bigN) ∧
 (Need (((List.length ((z11 ++ [(32 : Int), (59 : Int)]) ++ [(10 : Int)])) + y20.length) ≤ bigN) ∧
 (Need (((List.length (((z11 ++ [(32 : Int), (59 : Int)]) ++ [(10 : Int)]) ++ y20)) + 2) ≤ bigN) ∧
 (∃ y22 : (qT3 → (Int → (qT3 → ((List qT3) → (qT3 → (qT3 → Prop)))))),
 (∃ y23 : (qT3 → (Int → (qT3 → ((List qT3) → (qT3 → (qT3 → Nat)))))),
 ((y22 ((((z11 ++ [(32 : Int), (59 : Int)]) ++ [(10 : Int)]) ++ y20) ++ [(32 : Int), (58 : Int)]) (0 : Int) y20 [] [] []) ∧
 (∀ z24 : qT3,
 (∀ z25 : Int,
 (∀ z26 : qT3,
 (∀ z27 : (List qT3),
 (∀ z28 z29 : qT3,
 ((y22 z24 z25 z26 z27 z28 z29) →
 (Need ((0 ≤ z14) ∧ (z14 < (x1.length : Int))) ∧
 ((((decide (z25 < ((List.length (List.getD x1 z14.toNat [])) : Int))) = true) →
 (Need ((z24.length + 1) ≤ bigN) ∧
 (Need ((0 ≤ z14) ∧ (z14 < (x1.length : Int))) ∧
 (Need ((0 ≤ z25) ∧ (z25 < ((List.length (List.getD x1 z14.toNat [])) : Int))) ∧
 (∃ y32 : qT3,
 (Need (E 16 [(.tv [] (.int .u8) (List.getD (List.getD x1 z14.toNat []) z25.toNat (0 : Int)))] [] (.tv [] .str y32) []) ∧
 (Need (((List.length (z24 ++ [(32 : Int)])) + y32.length) ≤ bigN) ∧
 (Need ((0 ≤ z14) ∧ (z14 < (x1.length : Int))) ∧
 (Need ((0 ≤ z25) ∧ (z25 < ((List.length (List.getD x1 z14.toNat [])) : Int))) ∧
 (∃ y33 : qT3,
 (Need (E 16 [(.tv [] (.int .u8) (List.getD (List.getD x1 z14.toNat []) z25.toNat (0 : Int)))] [] (.tv [] .str y33) []) ∧
 (Need ((z27.length + (List.length [y33])) ≤ bigN) ∧
 (Need ((-9223372036854775808 ≤ (z25 + 1)) ∧ ((z25 + 1) ≤ 9223372036854775807)) ∧
 ((y22 ((z24 ++ [(32 : Int)]) ++ y32) (z25 + 1) z26 (z27 ++ [y33]) z28 z29) ∧
     Need ((y23 ((z24 ++ [(32 : Int)]) ++ y32) (z25 + 1) z26 (z27 ++ [y33]) z28 z29) < (y23 z24 z25 z26 z27 z28 z29)))))))))))))))) ∧
 (((decide (z25 < ((List.length (List.getD x1 z14.toNat [])) : Int))) = false) →
 (Need ((z13.length + (List.length [(z26, (z27, (z28, (z29, ()))))])) ≤ bigN) ∧
 (Need ((-9223372036854775808 ≤ (z14 + 1)) ∧ ((z14 + 1) ≤ 9223372036854775807)) ∧
 ((y7 z24 y20 (z13 ++ [(z26, (z27, (z28, (z29, ()))))]) (z14 + 1)) ∧
    Need ((y8 z24 y20 (z13 ++ [(z26, (z27, (z28, (z29, ()))))]) (z14 + 1)) < (y8 z11 z12 z13 z14)))))))))))))))))))))) ∧
 (((decide (0 < z14)) = false) →
 (Need ((z11.length + 1) ≤ bigN) ∧
 (Need (((List.length (z11 ++ [(10 : Int)])) + y20.length) ≤ bigN) ∧
 (Need (((List.length ((z11 ++ [(10 : Int)]) ++ y20)) + 2) ≤ bigN) ∧
 (∃ y36 : (qT3 → (Int → (qT3 → ((List qT3) → (qT3 → (qT3 → Prop)))))),
 (∃ y37 : (qT3 → (Int → (qT3 → ((List qT3) → (qT3 → (qT3 → Nat)))))),
 ((y36 (((z11 ++ [(10 : Int)]) ++ y20) ++ [(32 : Int), (58 : Int)]) (0 : Int) y20 [] [] []) ∧
 (∀ z38 : qT3,
 (∀ z39 : Int,
 (∀ z40 : qT3,
 (∀ z41 : (List qT3),
 (∀ z42 z43 : qT3,
 ((y36 z38 z39 z40 z41 z42 z43) →
 (Need ((0 ≤ z14) ∧ (z14 < (x1.length : Int))) ∧
 ((((decide (z39 < ((List.length (List.getD x1 z14.toNat [])) : Int))) = true) →
 (Need ((z38.length + 1) ≤ bigN) ∧
 (Need ((0 ≤ z14) ∧ (z14 < (x1.length : Int))) ∧
 (Need ((0 ≤ z39) ∧ (z39 < ((List.length (List.getD x1 z14.toNat [])) : Int))) ∧
 (∃ y46 : qT3,
 (Need (E 16 [(.tv [] (.int .u8) (List.getD (List.getD x1 z14.toNat []) z39.toNat (0 : Int)))] [] (.tv [] .str y46) []) ∧
 (Need (((List.length (z38 ++ [(32 : Int)])) + y46.length) ≤ bigN) ∧
 (Need ((0 ≤ z14) ∧ (z14 < (x1.length : Int))) ∧
 (Need ((0 ≤ z39) ∧ (z39 < ((List.length (List.getD x1 z14.toNat [])) : Int))) ∧
 (∃ y47 : qT3,
 (Need (E 16 [(.tv [] (.int .u8) (List.getD (List.getD x1 z14.toNat []) z39.toNat (0 : Int)))] [] (.tv [] .str y47) []) ∧
 (Need ((z41.length + (List.length [y47])) ≤ bigN) ∧
 (Need ((-9223372036854775808 ≤ (z39 + 1)) ∧ ((z39 + 1) ≤ 9223372036854775807)) ∧
 ((y36 ((z38 ++ [(32 : Int)]) ++ y46) (z39 + 1) z40 (z41 ++ [y47]) z42 z43) ∧
    Need ((y37 ((z38 ++ [(32 : Int)]) ++ y46) (z39 + 1) z40 (z41 ++ [y47]) z42 z43) < (y37 z38 z39 z40 z41 z42 z43)))))))))))))))) ∧
 (((decide (z39 < ((List.length (List.getD x1 z14.toNat [])) : Int))) = false) →
 (Need ((z13.length + (List.length [(z40, (z41, (z42, (z43, ()))))])) ≤ bigN) ∧
 (Need ((-9223372036854775808 ≤ (z14 + 1)) ∧ ((z14 + 1) ≤ 9223372036854775807)) ∧
 ((y7 z38 y20 (z13 ++ [(z40, (z41, (z42, (z43, ()))))]) (z14 + 1)) ∧
   Need ((y8 z38 y20 (z13 ++ [(z40, (z41, (z42, (z43, ()))))]) (z14 + 1)) < (y8 z11 z12 z13 z14)))))))))))))))))))))))))) ∧
 (((decide (z14 = (0 : Int))) = false) →
 ((((decide (z14 < (x2.length : Int))) = true) →
 (Need ((0 ≤ z14) ∧ (z14 < (x2.length : Int))) ∧
 ((((List.getD x2 z14.toNat false) = true) →
 (Need ((0 ≤ z14) ∧ (z14 < (x0.length : Int))) ∧
 (∃ y52 : qT3,
 (Need (E 16 [(.tv [] (.int .u8) (List.getD x0 z14.toNat (0 : Int)))] [] (.tv [] .str y52) []) ∧
 ((((decide (0 < z14)) = true) →
 (Need ((z11.length + 2) ≤ bigN) ∧
 (Need (((List.length (z11 ++ [(32 : Int), (59 : Int)])) + 1) ≤ bigN) ∧
 (Need (((List.length ((z11 ++ [(32 : Int), (59 : Int)]) ++ [(10 : Int)])) + y52.length) ≤ bigN) ∧
 (Need (((List.length (((z11 ++ [(32 : Int), (59 : Int)]) ++ [(10 : Int)]) ++ y52)) + 2) ≤ bigN) ∧
 (∃ y54 : (qT3 → (Int → (qT3 → ((List qT3) → (qT3 → (qT3 → Prop)))))),
 (∃ y55 : (qT3 → (Int → (qT3 → ((List qT3) → (qT3 → (qT3 → Nat)))))),
 ((y54 ((((z11 ++ [(32 : Int), (59 : Int)]) ++ [(10 : Int)]) ++ y52) ++ [(32 : Int), (58 : Int)]) (0 : Int) y52 [] [] []) ∧
 (∀ z56 : qT3,
 (∀ z57 : Int,
 (∀ z58 : qT3,
 (∀ z59 : (List qT3),
 (∀ z60 z61 : qT3,
 ((y54 z56 z57 z58 z59 z60 z61) →
 (Need ((0 ≤ z14) ∧ (z14 < (x1.length : Int))) ∧
 ((((decide (z57 < ((List.length (List.getD x1 z14.toNat [])) : Int))) = true) →
 (Need ((z56.length + 1) ≤ bigN) ∧
 (Need ((0 ≤ z14) ∧ (z14 < (x1.length : Int))) ∧
 (Need ((0 ≤ z57) ∧ (z57 < ((List.length (List.getD x1 z14.toNat [])) : Int))) ∧
 (∃ y64 : qT3,
 (Need (E 16 [(.tv [] (.int .u8) (List.getD (List.getD x1 z14.toNat []) z57.toNat (0 : Int)))] [] (.tv [] .str y64) []) ∧
 (Need (((List.length (z56 ++ [(32 : Int)])) + y64.length) ≤ bigN) ∧
 (Need ((0 ≤ z14) ∧ (z14 < (x1.length : Int))) ∧
 (Need ((0 ≤ z57) ∧ (z57 < ((List.length (List.getD x1 z14.toNat [])) : Int))) ∧
 (∃ y65 : qT3,
 (Need (E 16 [(.tv [] (.int .u8) (List.getD (List.getD x1 z14.toNat []) z57.toNat (0 : Int)))] [] (.tv [] .str y65) []) ∧
 (Need ((z59.length + (List.length [y65])) ≤ bigN) ∧
 (Need ((-9223372036854775808 ≤ (z57 + 1)) ∧ ((z57 + 1) ≤ 9223372036854775807)) ∧
 ((y54 ((z56 ++ [(32 : Int)]) ++ y64) (z57 + 1) z58 (z59 ++ [y65]) z60 z61) ∧
      Need ((y55 ((z56 ++ [(32 : Int)]) ++ y64) (z57 + 1) z58 (z59 ++ [y65]) z60 z61) < (y55 z56 z57 z58 z59 z60 z61)))))))))))))))) ∧
 (((decide (z57 < ((List.length (List.getD x1 z14.toNat [])) : Int))) = false) →
 (Need ((z13.length + (List.length [(z58, (z59, (z60, (z61, ()))))])) ≤ bigN) ∧
 (Need ((-9223372036854775808 ≤ (z14 + 1)) ∧ ((z14 + 1) ≤ 9223372036854775807)) ∧
 ((y7 z56 y52 (z13 ++ [(z58, (z59, (z60, (z61, ()))))]) (z14 + 1)) ∧
     Need ((y8 z56 y52 (z13 ++ [(z58, (z59, (z60, (z61, ()))))]) (z14 + 1)) < (y8 z11 z12 z13 z14)))))))))))))))))))))) ∧
 (((decide (0 < z14)) = false) →
 (Need ((z11.length + 1) ≤ bigN) ∧
 (Need (((List.length (z11 ++ [(10 : Int)])) + y52.length) ≤ bigN) ∧
 (Need (((List.length ((z11 ++ [(10 : Int)]) ++ y52)) + 2) ≤ bigN) ∧
 (∃ y68 : (qT3 → (Int → (qT3 → ((List qT3) → (qT3 → (qT3 → Prop)))))),
 (∃ y69 : (qT3 → (Int → (qT3 → ((List qT3) → (qT3 → (qT3 → Nat)))))),
 ((y68 (((z11 ++ [(10 : Int)]) ++ y52) ++ [(32 : Int), (58 : Int)]) (0 : Int) y52 [] [] []) ∧
 (∀ z70 : qT3,
 (∀ z71 : Int,
 (∀ z72 : qT3,
 (∀ z73 : (List qT3),
 (∀ z74 z75 : qT3,
 ((y68 z70 z71 z72 z73 z74 z75) →
 (Need ((0 ≤ z14) ∧ (z14 < (x1.length : Int))) ∧
 ((((decide (z71 < ((List.length (List.getD x1 z14.toNat [])) : Int))) = true) →
 (Need ((z70.length + 1) ≤ bigN) ∧
 (Need ((0 ≤ z14) ∧ (z14 < (x1.length : Int))) ∧
 (Need ((0 ≤ z71) ∧ (z71 < ((List.length (List.getD x1 z14.toNat [])) : Int))) ∧
 (∃ y78 : qT3,
 (Need (E 16 [(.tv [] (.int .u8) (List.getD (List.getD x1 z14.toNat []) z71.toNat (0 : Int)))] [] (.tv [] .str y78) []) ∧
 (Need (((List.length (z70 ++ [(32 : Int)])) + y78.length) ≤ bigN) ∧
 (Need ((0 ≤ z14) ∧ (z14 < (x1.length : Int))) ∧
 (Need ((0 ≤ z71) ∧ (z71 < ((List.length (List.getD x1 z14.toNat [])) : Int))) ∧
 (∃ y79 : qT3,
 (Need (E 16 [(.tv [] (.int .u8) (List.getD (List.getD x1 z14.toNat []) z71.toNat (0 : Int)))] [] (.tv [] .str y79) []) ∧
 (Need ((z73.length + (List.length [y79])) ≤ bigN) ∧
 (Need ((-9223372036854775808 ≤ (z71 + 1)) ∧ ((z71 + 1) ≤ 9223372036854775807)) ∧
 ((y68 ((z70 ++ [(32 : Int)]) ++ y78) (z71 + 1) z72 (z73 ++ [y79]) z74 z75) ∧
     Need ((y69 ((z70 ++ [(32 : Int)]) ++ y78) (z71 + 1) z72 (z73 ++ [y79]) z74 z75) < (y69 z70 z71 z72 z73 z74 z75)))))))))))))))) ∧
 (((decide (z71 < ((List.length (List.getD x1 z14.toNat [])) : Int))) = false) →
 (Need ((z13.length + (List.length [(z72, (z73, (z74, (z75, ()))))])) ≤ bigN) ∧
 (Need ((-9223372036854775808 ≤ (z14 + 1)) ∧ ((z14 + 1) ≤ 9223372036854775807)) ∧
 ((y7 z70 y52 (z13 ++ [(z72, (z73, (z74, (z75, ()))))]) (z14 + 1)) ∧
    Need ((y8 z70 y52 (z13 ++ [(z72, (z73, (z74, (z75, ()))))]) (z14 + 1)) < (y8 z11 z12 z13 z14)))))))))))))))))))))))))) ∧
 (((List.getD x2 z14.toNat false) = false) →
 (Need ((z11.length + 2) ≤ bigN) ∧
 (∃ y82 : (qT3 → (Int → (qT3 → ((List qT3) → (qT3 → (qT3 → Prop)))))),
 (∃ y83 : (qT3 → (Int → (qT3 → ((List qT3) → (qT3 → (qT3 → Nat)))))),
 ((y82 (z11 ++ [(32 : Int), (124 : Int)]) (0 : Int) z12 [] [] []) ∧
 (∀ z84 : qT3,
 (∀ z85 : Int,
 (∀ z86 : qT3,
 (∀ z87 : (List qT3),
 (∀ z88 z89 : qT3,
 ((y82 z84 z85 z86 z87 z88 z89) →
 (Need ((0 ≤ z14) ∧ (z14 < (x1.length : Int))) ∧
 ((((decide (z85 < ((List.length (List.getD x1 z14.toNat [])) : Int))) = true) →
 (Need ((z84.length + 1) ≤ bigN) ∧
 (Need ((0 ≤ z14) ∧ (z14 < (x1.length : Int))) ∧
 (Need ((0 ≤ z85) ∧ (z85 < ((List.length (List.getD x1 z14.toNat [])) : Int))) ∧
 (∃ y92 : qT3,
 (Need (E 16 [(.tv [] (.int .u8) (List.getD (List.getD x1 z14.toNat []) z85.toNat (0 : Int)))] [] (.tv [] .str y92) []) ∧
 (Need (((List.length (z84 ++ [(32 : Int)])) + y92.length) ≤ bigN) ∧
 (Need ((0 ≤ z14) ∧ (z14 < (x1.length : Int))) ∧
 (Need ((0 ≤ z85) ∧ (z85 < ((List.length (List.getD x1 z14.toNat [])) : Int))) ∧
 (∃ y93 : qT3,
 (Need (E 16 [(.tv [] (.int .u8) (List.getD (List.getD x1 z14.toNat []) z85.toNat (0 : Int)))] [] (.tv [] .str y93) []) ∧
 (Need ((z87.length + (List.length [y93])) ≤ bigN) ∧
 (Need ((-9223372036854775808 ≤ (z85 + 1)) ∧ ((z85 + 1) ≤ 9223372036854775807)) ∧
 ((y82 ((z84 ++ [(32 : Int)]) ++ y92) (z85 + 1) z86 (z87 ++ [y93]) z88 z89) ∧
    Need ((y83 ((z84 ++ [(32 : Int)]) ++ y92) (z85 + 1) z86 (z87 ++ [y93]) z88 z89) < (y83 z84 z85 z86 z87 z88 z89)))))))))))))))) ∧
 (((decide (z85 < ((List.length (List.getD x1 z14.toNat [])) : Int))) = false) →
 (Need ((z13.length + (List.length [(z86, (z87, (z88, (z89, ()))))])) ≤ bigN) ∧
 (Need ((-9223372036854775808 ≤ (z14 + 1)) ∧ ((z14 + 1) ≤ 9223372036854775807)) ∧
 ((y7 z84 z12 (z13 ++ [(z86, (z87, (z88, (z89, ()))))]) (z14 + 1)) ∧
   Need ((y8 z84 z12 (z13 ++ [(z86, (z87, (z88, (z89, ()))))]) (z14 + 1)) < (y8 z11 z12 z13 z14)))))))))))))))))))))) ∧
 (((decide (z14 < (x2.length : Int))) = false) →
 (Need ((z11.length + 2) ≤ bigN) ∧
 (∃ y96 : (qT3 → (Int → (qT3 → ((List qT3) → (qT3 → (qT3 → Prop)))))),
 (∃ y97 : (qT3 → (Int → (qT3 → ((List qT3) → (qT3 → (qT3 → Nat)))))),
 ((y96 (z11 ++ [(32 : Int), (124 : Int)]) (0 : Int) z12 [] [] []) ∧
 (∀ z98 : qT3,
 (∀ z99 : Int,
 (∀ z100 : qT3,
 (∀ z101 : (List qT3),
 (∀ z102 z103 : qT3,
 ((y96 z98 z99 z100 z101 z102 z103) →
 (Need ((0 ≤ z14) ∧ (z14 < (x1.length : Int))) ∧
 ((((decide (z99 < ((List.length (List.getD x1 z14.toNat [])) : Int))) = true) →
 (Need ((z98.length + 1) ≤ bigN) ∧
 (Need ((0 ≤ z14) ∧ (z14 < (x1.length : Int))) ∧
 (Need ((0 ≤ z99) ∧ (z99 < ((List.length (List.getD x1 z14.toNat [])) : Int))) ∧
 (∃ y106 : qT3,
 (Need (E 16 [(.tv [] (.int .u8) (List.getD (List.getD x1 z14.toNat []) z99.toNat (0 : Int)))] [] (.tv [] .str y106) []) ∧
 (Need (((List.length (z98 ++ [(32 : Int)])) + y106.length) ≤ bigN) ∧
 (Need ((0 ≤ z14) ∧ (z14 < (x1.length : Int))) ∧
 (Need ((0 ≤ z99) ∧ (z99 < ((List.length (List.getD x1 z14.toNat [])) : Int))) ∧
 (∃ y107 : qT3,
 (Need (E 16 [(.tv [] (.int .u8) (List.getD (List.getD x1 z14.toNat []) z99.toNat (0 : Int)))] [] (.tv [] .str y107) []) ∧
 (Need ((z101.length + (List.length [y107])) ≤ bigN) ∧
 (Need ((-9223372036854775808 ≤ (z99 + 1)) ∧ ((z99 + 1) ≤ 9223372036854775807)) ∧
 ((y96 ((z98 ++ [(32 : Int)]) ++ y106) (z99 + 1) z100 (z101 ++ [y107]) z102 z103) ∧
   Need ((y97 ((z98 ++ [(32 : Int)]) ++ y106) (z99 + 1) z100 (z101 ++ [y107]) z102 z103) < (y97 z98 z99 z100 z101 z102 z103)))))))))))))))) ∧
 (((decide (z99 < ((List.length (List.getD x1 z14.toNat [])) : Int))) = false) →
 (Need ((z13.length + (List.length [(z100, (z101, (z102, (z103, ()))))])) ≤ bigN) ∧
 (Need ((-9223372036854775808 ≤ (z14 + 1)) ∧ ((z14 + 1) ≤ 9223372036854775807)) ∧
 ((y7 z98 z12 (z13 ++ [(z100, (z101, (z102, (z103, ()))))]) (z14 + 1)) ∧
  Need ((y8 z98 z12 (z13 ++ [(z100, (z101, (z102, (z103, ()))))]) (z14 + 1)) < (y8 z11 z12 z13 z14)))))))))))))))))))))))))) ∧
 (((decide (z14 < (x0.length : Int))) = false) →
 (Need ((z11.length + 1) ≤ bigN) ∧
 (∃ y110 : qT5,
 (∃ y111 : qT7,
 (∃ y112 : qT4,
 (∃ y113 : qT3,
 (∃ y114 : qT1,
 (∃ y115 y116 y117 : Int,
 (Need (E 13 [(.tv [] .str (z11 ++ [(59 : Int)]))] [] (.tup [(.tv [] qt0 (y110, (y111, (y112, (y113, (y114, ())))))), (.tv [] qt2 (y115, ((y116, (y117, ())), ())))]) []) ∧
 (((y0 = true) →
 ((((decide (y115 = (0 : Int))) = true) →
 (Need (((0 : Int) ≤ (0 : Int)) ∧ ((0 : Int) < (x0.length : Int))) ∧
 (∃ y120 : qT3,
 (Need (E 16 [(.tv [] (.int .u8) (List.getD x0 0 (0 : Int)))] [] (.tv [] .str y120) []) ∧
 (∃ y121 : Bool,
 (Need (E 17 [(.tv [] qt0 (y110, (y111, (y112, (y113, (y114, ())))))), (.tv [] qt0 ([], ([], ([], (y120, (z13, ()))))))] [] (.tv [] .bool y121) []) ∧
 (Q (.tv [] .bool y121) []))))))) ∧
 (((decide (y115 = (0 : Int))) = false) →
 (Q (.tv [] .bool false) [])))) ∧
 ((y0 = false) →
 (Q (.tv [] .bool false) []))))))))))))))))))))))))))))) : EvF PP orc 4 [.tv [] (.slice (.int .u8)) x0, .tv [] (.slice (.slice (.int .u8))) x1, .tv [] (.slice .bool) x2] [] Q := vc_of (by kernel_rfl) h
end Go.Am.R
