/-
  A part of the proof of a law: see the text that states it.
-/
import Derived.Test.YtgfkdbplahpknaaHead
set_option linter.all false
namespace Go.Am.T
open Go
set_option maxRecDepth 100000
set_option maxHeartbeats 4000000
theorem vc39 (x1_0 : List qT2) (x1_1 : List qT2) (x1_2 : List ((Int × (List (Int) × (Int × Unit))))) (x1_3 : List (Int)) (x1_4 : List (Int)) (x1_5 : List qT2) (x2 : Int) (g2 : Nat) (l2 : List ((Bool × (Int × (Int × ((Int × (Int × (Int × Unit))) × (List (Int) × (Bool × Unit)))))))) (o0_0_0 : Int) (o0_0_1 : Int) (o0_0_2 : Int) (Q : AV → Heap → Prop) (h :
(∃ y0 : qT2,
 (∃ y1 y2 : Nat,
 (∃ y3 y4 y5 : Int,
 (∃ y6 : Nat,
 (∃ y7 : qT1,
 (Need (E 37 [(.op (0, 0) []), (.tv [] (.int .i64) x2)] (hq6 g2 l2 o0_0_0 o0_0_1 o0_0_2) (.tv [[]] qt8 y0) (hq1 y1 y2 y3 y4 y5 y6 y7)) ∧
 (∃ y8 : (Int → (Int → (Int → (Int → (Int → (Int → (Int → (qT1 → Prop)))))))),
 (∃ y9 : (Int → (Int → (Int → (Int → (Int → (Int → (Int → (qT1 → Nat)))))))),
 (Need (y7.length = y7.length) ∧
 ((y8 (0 : Int) (y1 : Int) (y2 : Int) y3 y4 y5 (y6 : Int) y7) ∧
 (∀ z10 z11 z12 z13 z14 z15 z16 : Int,
 (∀ z17 : qT1,
 ((y8 z10 z11 z12 z13 z14 z15 z16 z17) →
 ((((decide (z10 < (y0.length : Int))) = true) →
 (Need ((0 ≤ z10) ∧ (z10 < (y0.length : Int))) ∧
 (Need (((0 : Int) ≤ (List.getD y0 z10.toNat (0 : Int))) ∧ ((List.getD y0 z10.toNat (0 : Int)) < (z12.toNat : Int))) ∧
 (Need (z16.toNat = z11.toNat) ∧
 (Need ((0 + (Int.toNat (List.getD y0 z10.toNat (0 : Int)))) < z17.length) ∧
 ((((List.getD z17 (0 + (Int.toNat (List.getD y0 z10.toNat (0 : Int)))) (false, ((0 : Int), ((0 : Int), (((0 : Int), ((0 : Int), ((0 : Int), ()))), ([], (false, ()))))))).1 = true) →
 ((((decide ((List.getD z17 (0 + (Int.toNat (List.getD y0 z10.toNat (0 : Int)))) (false, ((0 : Int), ((0 : Int), (((0 : Int), ((0 : Int), ((0 : Int), ()))), ([], (false, ()))))))).2.2.1 < (1 : Int))) = true) →
 (Q (.tv [] .bool false) (hq1 z11.toNat z12.toNat z13 z14 z15 z16.toNat z17))) ∧
 (((decide ((List.getD z17 (0 + (Int.toNat (List.getD y0 z10.toNat (0 : Int)))) (false, ((0 : Int), ((0 : Int), (((0 : Int), ((0 : Int), ((0 : Int), ()))), ([], (false, ()))))))).2.2.1 < (1 : Int))) = false) →
 ((((decide ((x1_0.length : Int) ≤ (List.getD z17 (0 + (Int.toNat (List.getD y0 z10.toNat (0 : Int)))) (false, ((0 : Int), ((0 : Int), (((0 : Int), ((0 : Int), ((0 : Int), ()))), ([], (false, ()))))))).2.2.1)) = true) →
 (Q (.tv [] .bool false) (hq1 z11.toNat z12.toNat z13 z14 z15 z16.toNat z17))) ∧
 (((decide ((x1_0.length : Int) ≤ (List.getD z17 (0 + (Int.toNat (List.getD y0 z10.toNat (0 : Int)))) (false, ((0 : Int), ((0 : Int), (((0 : Int), ((0 : Int), ((0 : Int), ()))), ([], (false, ()))))))).2.2.1)) = false) →
 (Need ((-9223372036854775808 ≤ (z10 + 1)) ∧ ((z10 + 1) ≤ 9223372036854775807)) ∧
 (Need (z17.length = z17.length) ∧
 ((y8 (z10 + 1) (z11.toNat : Int) (z12.toNat : Int) z13 z14 z15 (z16.toNat : Int) z17) ∧
   Need ((y9 (z10 + 1) (z11.toNat : Int) (z12.toNat : Int) z13 z14 z15 (z16.toNat : Int) z17) < (y9 z10 z11 z12 z13 z14 z15 z16 z17)))))))))) ∧
 (((List.getD z17 (0 + (Int.toNat (List.getD y0 z10.toNat (0 : Int)))) (false, ((0 : Int), ((0 : Int), (((0 : Int), ((0 : Int), ((0 : Int), ()))), ([], (false, ()))))))).1 = false) →
 ((((decide ((List.getD z17 (0 + (Int.toNat (List.getD y0 z10.toNat (0 : Int)))) (false, ((0 : Int), ((0 : Int), (((0 : Int), ((0 : Int), ((0 : Int), ()))), ([], (false, ()))))))).2.1 < (1 : Int))) = true) →
 (Q (.tv [] .bool false) (hq1 z11.toNat z12.toNat z13 z14 z15 z16.toNat z17))) ∧
 (((decide ((List.getD z17 (0 + (Int.toNat (List.getD y0 z10.toNat (0 : Int)))) (false, ((0 : Int), ((0 : Int), (((0 : Int), ((0 : Int), ((0 : Int), ()))), ([], (false, ()))))))).2.1 < (1 : Int))) = false) →
 ((((decide ((x1_2.length : Int) ≤ (List.getD z17 (0 + (Int.toNat (List.getD y0 z10.toNat (0 : Int)))) (false, ((0 : Int), ((0 : Int), (((0 : Int), ((0 : Int), ((0 : Int), ()))), ([], (false, ()))))))).2.1)) = true) →
 (Q (.tv [] .bool false) (hq1 z11.toNat z12.toNat z13 z14 z15 z16.toNat z17))) ∧
 (((decide ((x1_2.length : Int) ≤ (List.getD z17 (0 + (Int.toNat (List.getD y0 z10.toNat (0 : Int)))) (false, ((0 : Int), ((0 : Int), (((0 : Int), ((0 : Int), ((0 : Int), ()))), ([], (false, ()))))))).2.1)) = false) →
 (Need (((0 : Int) ≤ (List.getD z17 (0 + (Int.toNat (List.getD y0 z10.toNat (0 : Int)))) (false, ((0 : Int), ((0 : Int), (((0 : Int), ((0 : Int), ((0 : Int), ()))), ([], (false, ()))))))).2.1) ∧ ((List.getD z17 (0 + (Int.toNat (List.getD y0 z10.toNat (0 : Int)))) (false, ((0 : Int), ((0 : Int), (((0 : Int), ((0 : Int), ((0 : Int), ()))), ([], (false, ()))))))).2.1 < (x1_2.length : Int))) ∧
 ((((decide ((List.getD x1_2 (Int.toNat (List.getD z17 (0 + (Int.toNat (List.getD y0 z10.toNat (0 : Int)))) (false, ((0 : Int), ((0 : Int), (((0 : Int), ((0 : Int), ((0 : Int), ()))), ([], (false, ()))))))).2.1) ((0 : Int), ([], ((0 : Int), ())))).1 ≠ (List.getD z17 (0 + (Int.toNat (List.getD y0 z10.toNat (0 : Int)))) (false, ((0 : Int), ((0 : Int), (((0 : Int), ((0 : Int), ((0 : Int), ()))), ([], (false, ()))))))).2.2.1)) = true) →
 (Q (.tv [] .bool false) (hq1 z11.toNat z12.toNat z13 z14 z15 z16.toNat z17))) ∧
 (((decide ((List.getD x1_2 (Int.toNat (List.getD z17 (0 + (Int.toNat (List.getD y0 z10.toNat (0 : Int)))) (false, ((0 : Int), ((0 : Int), (((0 : Int), ((0 : Int), ((0 : Int), ()))), ([], (false, ()))))))).2.1) ((0 : Int), ([], ((0 : Int), ())))).1 ≠ (List.getD z17 (0 + (Int.toNat (List.getD y0 z10.toNat (0 : Int)))) (false, ((0 : Int), ((0 : Int), (((0 : Int), ((0 : Int), ((0 : Int), ()))), ([], (false, ()))))))).2.2.1)) = false) →
 (∃ y32 : (qT2 → (Int → (Bool → (Int → (Int → (Int → (Int → (Int → (qT2 → (Bool → (Int → (Int → (Int → (Int → (Int → (Int → (qT1 → Prop))))))))))))))))),
 (∃ y33 : (qT2 → (Int → (Bool → (Int → (Int → (Int → (Int → (Int → (qT2 → (Bool → (Int → (Int → (Int → (Int → (Int → (Int → (qT1 → Nat))))))))))))))))),
 (Need (z17.length = z17.length) ∧
 ((y32 [] (0 : Int) (List.getD z17 (0 + (Int.toNat (List.getD y0 z10.toNat (0 : Int)))) (false, ((0 : Int), ((0 : Int), (((0 : Int), ((0 : Int), ((0 : Int), ()))), ([], (false, ()))))))).1 (List.getD z17 (0 + (Int.toNat (List.getD y0 z10.toNat (0 : Int)))) (false, ((0 : Int), ((0 : Int), (((0 : Int), ((0 : Int), ((0 : Int), ()))), ([], (false, ()))))))).2.1 (List.getD z17 (0 + (Int.toNat (List.getD y0 z10.toNat (0 : Int)))) (false, ((0 : Int), ((0 : Int), (((0 : Int), ((0 : Int), ((0 : Int), ()))), ([], (false, ()))))))).2.2.1 (List.getD z17 (0 + (Int.toNat (List.getD y0 z10.toNat (0 : Int)))) (false, ((0 : Int), ((0 : Int), (((0 : Int), ((0 : Int), ((0 : Int), ()))), ([], (false, ()))))))).2.2.2.1.1 (List.getD z17 (0 + (Int.toNat (List.getD y0 z10.toNat (0 : Int)))) (false, ((0 : Int), ((0 : Int), (((0 : Int), ((0 : Int), ((0 : Int), ()))), ([], (false, ()))))))).2.2.2.1.2.1 (List.getD z17 (0 + (Int.toNat (List.getD y0 z10.toNat (0 : Int)))) (false, ((0 : Int), ((0 : Int), (((0 : Int), ((0 : Int), ((0 : Int), ()))), ([], (false, ()))))))).2.2.2.1.2.2.1 (List.getD z17 (0 + (Int.toNat (List.getD y0 z10.toNat (0 : Int)))) (false, ((0 : Int), ((0 : Int), (((0 : Int), ((0 : Int), ((0 : Int), ()))), ([], (false, ()))))))).2.2.2.2.1 (List.getD z17 (0 + (Int.toNat (List.getD y0 z10.toNat (0 : Int)))) (false, ((0 : Int), ((0 : Int), (((0 : Int), ((0 : Int), ((0 : Int), ()))), ([], (false, ()))))))).2.2.2.2.2.1 (z11.toNat : Int) (z12.toNat : Int) z13 z14 z15 (z16.toNat : Int) z17) ∧
 (∀ z34 : qT2,
 (∀ z35 : Int,
 (∀ z36 : Bool,
 (∀ z37 z38 z39 z40 z41 : Int,
 (∀ z42 : qT2,
 (∀ z43 : Bool,
 (∀ z44 z45 z46 z47 z48 z49 : Int,
 (∀ z50 : qT1,
 ((y32 z34 z35 z36 z37 z38 z39 z40 z41 z42 z43 z44 z45 z46 z47 z48 z49 z50) →
 ((((decide (z35 < (z42.length : Int))) = true) →
 (Need ((0 ≤ z35) ∧ (z35 < (z42.length : Int))) ∧
 (Need (((0 : Int) ≤ (List.getD z42 z35.toNat (0 : Int))) ∧ ((List.getD z42 z35.toNat (0 : Int)) < (z45.toNat : Int))) ∧
 (Need (z49.toNat = z44.toNat) ∧
 (Need ((0 + (Int.toNat (List.getD z42 z35.toNat (0 : Int)))) < z50.length) ∧
 (Need (z49.toNat = z44.toNat) ∧
 (Need ((0 + (Int.toNat (List.getD z42 z35.toNat (0 : Int)))) < z50.length) ∧
 (Need ((z34.length + (List.length [(List.getD z50 (0 + (Int.toNat (List.getD z42 z35.toNat (0 : Int)))) (false, ((0 : Int), ((0 : Int), (((0 : Int), ((0 : Int), ((0 : Int), ()))), ([], (false, ()))))))).2.2.1])) ≤ bigN) ∧
 (Need ((-9223372036854775808 ≤ (z35 + 1)) ∧ ((z35 + 1) ≤ 9223372036854775807)) ∧
 (Need (z50.length = z50.length) ∧
 ((y32 (z34 ++ [(List.getD z50 (0 + (Int.toNat (List.getD z42 z35.toNat (0 : Int)))) (false, ((0 : Int), ((0 : Int), (((0 : Int), ((0 : Int), ((0 : Int), ()))), ([], (false, ()))))))).2.2.1]) (z35 + 1) z36 z37 z38 z39 z40 z41 z42 z43 (z44.toNat : Int) (z45.toNat : Int) z46 z47 z48 (z49.toNat : Int) z50) ∧
   Need ((y33 (z34 ++ [(List.getD z50 (0 + (Int.toNat (List.getD z42 z35.toNat (0 : Int)))) (false, ((0 : Int), ((0 : Int), (((0 : Int), ((0 : Int), ((0 : Int), ()))), ([], (false, ()))))))).2.2.1]) (z35 + 1) z36 z37 z38 z39 z40 z41 z42 z43 (z44.toNat : Int) (z45.toNat : Int) z46 z47 z48 (z49.toNat : Int) z50) < (y33 z34 z35 z36 z37 z38 z39 z40 z41 z42 z43 z44 z45 z46 z47 z48 z49 z50))))))))))))) ∧
 (((decide (z35 < (z42.length : Int))) = false) →
 (Need ((0 ≤ z37) ∧ (z37 < (x1_2.length : Int))) ∧
 (∃ y54 : Bool,
 (Need (E 15 [(.tv [] qt8 z34), (.tv [] qt8 (List.getD x1_2 z37.toNat ((0 : Int), ([], ((0 : Int), ())))).2.1)] [] (.tv [] .bool y54) []) ∧
 ((((!y54) = true) →
 (Q (.tv [] .bool false) (hq1 z44.toNat z45.toNat z46 z47 z48 z49.toNat z50))) ∧
 (((!y54) = false) →
 (Need ((-9223372036854775808 ≤ (z10 + 1)) ∧ ((z10 + 1) ≤ 9223372036854775807)) ∧
 (Need (z50.length = z50.length) ∧
 ((y8 (z10 + 1) (z44.toNat : Int) (z45.toNat : Int) z46 z47 z48 (z49.toNat : Int) z50) ∧
  Need ((y9 (z10 + 1) (z44.toNat : Int) (z45.toNat : Int) z46 z47 z48 (z49.toNat : Int) z50) < (y9 z10 z11 z12 z13 z14 z15 z16 z17))))))))))))))))))))))))))))))))))))))) ∧
 (((decide (z10 < (y0.length : Int))) = false) →
 (Q (.tv [] .bool (decide ((0 : Int) < (y0.length : Int)))) (hq1 z11.toNat z12.toNat z13 z14 z15 z16.toNat z17)))))))))))))))))) : EvF PP orc 39 [.op (0, 0) [], .tv [] qt3 (x1_0, (x1_1, (x1_2, (x1_3, (x1_4, (x1_5, ())))))), .tv [] (.int .i64) x2] (hq8 g2 l2 o0_0_0 o0_0_1 o0_0_2) Q := vcF_ok (sg := sg) (Eq.mp (by kernel_rfl) h)
theorem vc41 (x1_0 : List qT2) (x1_1 : List qT2) (x1_2 : List ((Int × (List (Int) × (Int × Unit))))) (x1_3 : List (Int)) (x1_4 : List (Int)) (x1_5 : List qT2) (x2 : Int) (g2 : Nat) (l2 : List ((Bool × (Int × (Int × ((Int × (Int × (Int × Unit))) × (List (Int) × (Bool × Unit)))))))) (o0_0_0 : Int) (o0_0_1 : Int) (o0_0_2 : Int) (Q : AV → Heap → Prop) (h :
((((decide (x2 < 0)) = true) →
 (Q (.tv [] .str (List.map (fun v1 => (((BitVec.toNat (UInt8.toBitVec v1)) : Nat) : Int)) [])) (hq6 g2 l2 o0_0_0 o0_0_1 o0_0_2))) ∧
 (((decide (x2 < 0)) = false) →
 ((((decide ((l2.length : Int) ≤ x2)) = true) →
 (Q (.tv [] .str (List.map (fun v4 => (((BitVec.toNat (UInt8.toBitVec v4)) : Nat) : Int)) [])) (hq6 g2 l2 o0_0_0 o0_0_1 o0_0_2))) ∧
 (((decide ((l2.length : Int) ≤ x2)) = false) →
 (Need ((0 ≤ x2) ∧ (x2 < (l2.length : Int))) ∧
 (Need (g2 = g2) ∧
 (Need ((0 + x2.toNat) < l2.length) ∧
 (Need (g2 = g2) ∧
 (Need ((0 + x2.toNat) < l2.length) ∧
 (∃ y6 : qT2,
 (Need (E 63 [(.tv [] qt3 (x1_0, (x1_1, (x1_2, (x1_3, (x1_4, (x1_5, ()))))))), (.tv [] (.int .i64) (List.getD l2 (0 + x2.toNat) (false, ((0 : Int), ((0 : Int), (((0 : Int), ((0 : Int), ((0 : Int), ()))), ([], (false, ()))))))).2.2.1)] [] (.tv [] .str y6) []) ∧
 (Need ((0 ≤ x2) ∧ (x2 < (l2.length : Int))) ∧
 (Need (g2 = g2) ∧
 (Need ((0 + x2.toNat) < l2.length) ∧
 (Need (g2 = g2) ∧
 (Need ((0 + x2.toNat) < l2.length) ∧
 ((((List.getD l2 (0 + x2.toNat) (false, ((0 : Int), ((0 : Int), (((0 : Int), ((0 : Int), ((0 : Int), ()))), ([], (false, ()))))))).1 = true) →
 (Q (.tv [] .str y6) (hq6 g2 l2 o0_0_0 o0_0_1 o0_0_2))) ∧
 (((List.getD l2 (0 + x2.toNat) (false, ((0 : Int), ((0 : Int), (((0 : Int), ((0 : Int), ((0 : Int), ()))), ([], (false, ()))))))).1 = false) →
 (Need ((1 + y6.length) ≤ bigN) ∧
 (∃ y9 : (qT2 → (Int → (Int → (Int → (Int → (Int → (Int → (Int → (qT1 → Prop))))))))),
 (∃ y10 : (qT2 → (Int → (Int → (Int → (Int → (Int → (Int → (Int → (qT1 → Nat))))))))),
 (Need (l2.length = l2.length) ∧
 ((y9 ([(40 : Int)] ++ y6) (0 : Int) (g2 : Int) (l2.length : Int) o0_0_0 o0_0_1 o0_0_2 (g2 : Int) l2) ∧
 (∀ z11 : qT2,
 (∀ z12 z13 z14 z15 z16 z17 z18 : Int,
 (∀ z19 : qT1,
 ((y9 z11 z12 z13 z14 z15 z16 z17 z18 z19) →
 (Need ((0 ≤ x2) ∧ (x2 < (z14.toNat : Int))) ∧
 (Need (z18.toNat = z13.toNat) ∧
 (Need ((0 + x2.toNat) < z19.length) ∧
 (Need (z18.toNat = z13.toNat) ∧
 (Need ((0 + x2.toNat) < z19.length) ∧
 ((((decide (z12 < ((List.length (List.getD z19 (0 + x2.toNat) (false, ((0 : Int), ((0 : Int), (((0 : Int), ((0 : Int), ((0 : Int), ()))), ([], (false, ()))))))).2.2.2.2.1) : Int))) = true) →
 (Need ((z11.length + 1) ≤ bigN) ∧
 (Need ((0 ≤ x2) ∧ (x2 < (z14.toNat : Int))) ∧
 (Need (z18.toNat = z13.toNat) ∧
 (Need ((0 + x2.toNat) < z19.length) ∧
 (Need (z18.toNat = z13.toNat) ∧
 (Need ((0 + x2.toNat) < z19.length) ∧
 (Need ((0 ≤ z12) ∧ (z12 < ((List.length (List.getD z19 (0 + x2.toNat) (false, ((0 : Int), ((0 : Int), (((0 : Int), ((0 : Int), ((0 : Int), ()))), ([], (false, ()))))))).2.2.2.2.1) : Int))) ∧
 (∃ y22 : qT2,
 (∃ y23 y24 : Nat,
 (∃ y25 y26 y27 : Int,
 (∃ y28 : Nat,
 (∃ y29 : qT1,
 (Need (E 41 [(.op (0, 0) []), (.tv [] qt3 (x1_0, (x1_1, (x1_2, (x1_3, (x1_4, (x1_5, ()))))))), (.tv [] (.int .i64) (List.getD (List.getD z19 (0 + x2.toNat) (false, ((0 : Int), ((0 : Int), (((0 : Int), ((0 : Int), ((0 : Int), ()))), ([], (false, ()))))))).2.2.2.2.1 z12.toNat (0 : Int)))] (hq1 z13.toNat z14.toNat z15 z16 z17 z18.toNat z19) (.tv [] .str y22) (hq1 y23 y24 y25 y26 y27 y28 y29)) ∧
 (Need (((List.length (z11 ++ [(32 : Int)])) + y22.length) ≤ bigN) ∧
 (Need ((-9223372036854775808 ≤ (z12 + 1)) ∧ ((z12 + 1) ≤ 9223372036854775807)) ∧
 (Need (y29.length = y29.length) ∧
 ((y9 ((z11 ++ [(32 : Int)]) ++ y22) (z12 + 1) (y23 : Int) (y24 : Int) y25 y26 y27 (y28 : Int) y29) ∧
  Need ((y10 ((z11 ++ [(32 : Int)]) ++ y22) (z12 + 1) (y23 : Int) (y24 : Int) y25 y26 y27 (y28 : Int) y29) < (y10 z11 z12 z13 z14 z15 z16 z17 z18 z19)))))))))))))))))))) ∧
 (((decide (z12 < ((List.length (List.getD z19 (0 + x2.toNat) (false, ((0 : Int), ((0 : Int), (((0 : Int), ((0 : Int), ((0 : Int), ()))), ([], (false, ()))))))).2.2.2.2.1) : Int))) = false) →
 (Need ((z11.length + 1) ≤ bigN) ∧
 (Q (.tv [] .str (z11 ++ [(41 : Int)])) (hq1 z13.toNat z14.toNat z15 z16 z17 z18.toNat z19)))))))))))))))))))))))))))))))))))))) : EvF PP orc 41 [.op (0, 0) [], .tv [] qt3 (x1_0, (x1_1, (x1_2, (x1_3, (x1_4, (x1_5, ())))))), .tv [] (.int .i64) x2] (hq8 g2 l2 o0_0_0 o0_0_1 o0_0_2) Q := vcF_ok (sg := sg) (Eq.mp (by kernel_rfl) h)
theorem vc63 (x0_0 : List qT2) (x0_1 : List qT2) (x0_2 : List ((Int × (List (Int) × (Int × Unit))))) (x0_3 : List (Int)) (x0_4 : List (Int)) (x0_5 : List qT2) (x1 : Int) (Q : AV → Heap → Prop) (h :
((((decide (0 ≤ x1)) = true) →
 ((((decide (x1 < (x0_0.length : Int))) = true) →
 (Need ((0 ≤ x1) ∧ (x1 < (x0_0.length : Int))) ∧
 (Q (.tv [] .str (List.getD x0_0 x1.toNat [])) []))) ∧
 (((decide (x1 < (x0_0.length : Int))) = false) →
 ((((decide ((x0_0.length : Int) ≤ x1)) = true) →
 (Need ((-9223372036854775808 ≤ ((x0_0.length : Int) + (x0_1.length : Int))) ∧ (((x0_0.length : Int) + (x0_1.length : Int)) ≤ 9223372036854775807)) ∧
 ((((decide (x1 < ((x0_0.length : Int) + (x0_1.length : Int)))) = true) →
 (Need ((-9223372036854775808 ≤ (x1 - (x0_0.length : Int))) ∧ ((x1 - (x0_0.length : Int)) ≤ 9223372036854775807)) ∧
 (Need (((0 : Int) ≤ (x1 - (x0_0.length : Int))) ∧ ((x1 - (x0_0.length : Int)) < (x0_1.length : Int))) ∧
 (Q (.tv [] .str (List.getD x0_1 (Int.toNat (x1 - (x0_0.length : Int))) [])) [])))) ∧
 (((decide (x1 < ((x0_0.length : Int) + (x0_1.length : Int)))) = false) →
 (Need ((-9223372036854775808 ≤ ((x0_0.length : Int) + (x0_1.length : Int))) ∧ (((x0_0.length : Int) + (x0_1.length : Int)) ≤ 9223372036854775807)) ∧
 ((((decide (x1 = ((x0_0.length : Int) + (x0_1.length : Int)))) = true) →
 (Q (.tv [] .str (List.map (fun v7 => (((BitVec.toNat (UInt8.toBitVec v7)) : Nat) : Int)) [(36 : UInt8), (97 : UInt8), (99 : UInt8), (99 : UInt8), (101 : UInt8), (112 : UInt8), (116 : UInt8)])) [])) ∧
 (((decide (x1 = ((x0_0.length : Int) + (x0_1.length : Int)))) = false) →
 (Q (.tv [] .str (List.map (fun v9 => (((BitVec.toNat (UInt8.toBitVec v9)) : Nat) : Int)) [])) [])))))))) ∧
 (((decide ((x0_0.length : Int) ≤ x1)) = false) →
 (Need ((-9223372036854775808 ≤ ((x0_0.length : Int) + (x0_1.length : Int))) ∧ (((x0_0.length : Int) + (x0_1.length : Int)) ≤ 9223372036854775807)) ∧
 ((((decide (x1 = ((x0_0.length : Int) + (x0_1.length : Int)))) = true) →
 (Q (.tv [] .str (List.map (fun v12 => (((BitVec.toNat (UInt8.toBitVec v12)) : Nat) : Int)) [(36 : UInt8), (97 : UInt8), (99 : UInt8), (99 : UInt8), (101 : UInt8), (112 : UInt8), (116 : UInt8)])) [])) ∧
 (((decide (x1 = ((x0_0.length : Int) + (x0_1.length : Int)))) = false) →
 (Q (.tv [] .str (List.map (fun v14 => (((BitVec.toNat (UInt8.toBitVec v14)) : Nat) : Int)) [])) []))))))))) ∧
 (((decide (0 ≤ x1)) = false) →
 ((((decide ((x0_0.length : Int) ≤ x1)) = true) →
 (Need ((-9223372036854775808 ≤ ((x0_0.length : Int) + (x0_1.length : Int))) ∧ (((x0_0.length : Int) + (x0_1.length : Int)) ≤ 9223372036854775807)) ∧
 ((((decide (x1 < ((x0_0.length : Int) + (x0_1.length : Int)))) = true) →
 (Need ((-9223372036854775808 ≤ (x1 - (x0_0.length : Int))) ∧ ((x1 - (x0_0.length : Int)) ≤ 9223372036854775807)) ∧
 (Need (((0 : Int) ≤ (x1 - (x0_0.length : Int))) ∧ ((x1 - (x0_0.length : Int)) < (x0_1.length : Int))) ∧
 (Q (.tv [] .str (List.getD x0_1 (Int.toNat (x1 - (x0_0.length : Int))) [])) [])))) ∧
 (((decide (x1 < ((x0_0.length : Int) + (x0_1.length : Int)))) = false) →
 (Need ((-9223372036854775808 ≤ ((x0_0.length : Int) + (x0_1.length : Int))) ∧ (((x0_0.length : Int) + (x0_1.length : Int)) ≤ 9223372036854775807)) ∧
 ((((decide (x1 = ((x0_0.length : Int) + (x0_1.length : Int)))) = true) →
 (Q (.tv [] .str (List.map (fun v20 => (((BitVec.toNat (UInt8.toBitVec v20)) : Nat) : Int)) [(36 : UInt8), (97 : UInt8), (99 : UInt8), (99 : UInt8), (101 : UInt8), (112 : UInt8), (116 : UInt8)])) [])) ∧
 (((decide (x1 = ((x0_0.length : Int) + (x0_1.length : Int)))) = false) →
 (Q (.tv [] .str (List.map (fun v22 => (((BitVec.toNat (UInt8.toBitVec v22)) : Nat) : Int)) [])) [])))))))) ∧
 (((decide ((x0_0.length : Int) ≤ x1)) = false) →
 (Need ((-9223372036854775808 ≤ ((x0_0.length : Int) + (x0_1.length : Int))) ∧ (((x0_0.length : Int) + (x0_1.length : Int)) ≤ 9223372036854775807)) ∧
 ((((decide (x1 = ((x0_0.length : Int) + (x0_1.length : Int)))) = true) →
 (Q (.tv [] .str (List.map (fun v25 => (((BitVec.toNat (UInt8.toBitVec v25)) : Nat) : Int)) [(36 : UInt8), (97 : UInt8), (99 : UInt8), (99 : UInt8), (101 : UInt8), (112 : UInt8), (116 : UInt8)])) [])) ∧
 (((decide (x1 = ((x0_0.length : Int) + (x0_1.length : Int)))) = false) →
 (Q (.tv [] .str (List.map (fun v27 => (((BitVec.toNat (UInt8.toBitVec v27)) : Nat) : Int)) [])) []))))))))) : EvF PP orc 63 [.tv [] qt3 (x0_0, (x0_1, (x0_2, (x0_3, (x0_4, (x0_5, ())))))), .tv [] (.int .i64) x1] [] Q := vcF_ok (sg := sg) (Eq.mp (by kernel_rfl) h)
end Go.Am.T
namespace Go.Am.T
open Go
set_option maxRecDepth 100000
set_option maxHeartbeats 4000000
theorem vc61 (x0_0 : List qT2) (x0_1 : List qT2) (x0_2 : List ((Int × (List (Int) × (Int × Unit))))) (x0_3 : List (Int)) (x0_4 : List (Int)) (x0_5 : List qT2) (x1 : Int) (Q : AV → Heap → Prop) (h :
((((decide (x1 < 0)) = true) →
 (Q (.tv [] .str (List.map (fun v1 => (((BitVec.toNat (UInt8.toBitVec v1)) : Nat) : Int)) [])) [])) ∧
 (((decide (x1 < 0)) = false) →
 (∃ y3 : Int,
 (Need (E 77 [(.tv [] qt3 (x0_0, (x0_1, (x0_2, (x0_3, (x0_4, (x0_5, ())))))))] [] (.tv [] (.int .i64) y3) []) ∧
 ((((decide (y3 < x1)) = true) →
 (Q (.tv [] .str (List.map (fun v5 => (((BitVec.toNat (UInt8.toBitVec v5)) : Nat) : Int)) [])) [])) ∧
 (((decide (y3 < x1)) = false) →
 (∃ y7 : Int,
 (Need (E 77 [(.tv [] qt3 (x0_0, (x0_1, (x0_2, (x0_3, (x0_4, (x0_5, ())))))))] [] (.tv [] (.int .i64) y7) []) ∧
 ((((decide (x1 = y7)) = true) →
 (Q (.tv [] .str (List.map (fun v9 => (((BitVec.toNat (UInt8.toBitVec v9)) : Nat) : Int)) [(36 : UInt8), (97 : UInt8), (99 : UInt8), (99 : UInt8), (101 : UInt8), (112 : UInt8), (116 : UInt8)])) [])) ∧
 (((decide (x1 = y7)) = false) →
 (∃ y11 : Bool,
 (Need (E 72 [(.tv [] qt3 (x0_0, (x0_1, (x0_2, (x0_3, (x0_4, (x0_5, ()))))))), (.tv [] (.int .i64) x1)] [] (.tv [] .bool y11) []) ∧
 (((y11 = true) →
 (Need ((0 ≤ x1) ∧ (x1 < (x0_0.length : Int))) ∧
 (Q (.tv [] .str (List.getD x0_0 x1.toNat [])) []))) ∧
 ((y11 = false) →
 (Need ((-9223372036854775808 ≤ (x1 - (x0_0.length : Int))) ∧ ((x1 - (x0_0.length : Int)) ≤ 9223372036854775807)) ∧
 (Need (((0 : Int) ≤ (x1 - (x0_0.length : Int))) ∧ ((x1 - (x0_0.length : Int)) < (x0_1.length : Int))) ∧
 (Q (.tv [] .str (List.getD x0_1 (Int.toNat (x1 - (x0_0.length : Int))) [])) [])))))))))))))))))) : EvF PP orc 61 [.tv [] qt3 (x0_0, (x0_1, (x0_2, (x0_3, (x0_4, (x0_5, ())))))), .tv [] (.int .i64) x1] [] Q := vcF_ok (sg := sg) (Eq.mp (by kernel_rfl) h)
theorem vc77 (x0_0 : List qT2) (x0_1 : List qT2) (x0_2 : List ((Int × (List (Int) × (Int × Unit))))) (x0_3 : List (Int)) (x0_4 : List (Int)) (x0_5 : List qT2) (Q : AV → Heap → Prop) (h :
(Need ((-9223372036854775808 ≤ ((x0_0.length : Int) + (x0_1.length : Int))) ∧ (((x0_0.length : Int) + (x0_1.length : Int)) ≤ 9223372036854775807)) ∧
 (Q (.tv [] (.int .i64) ((x0_0.length : Int) + (x0_1.length : Int))) []))) : EvF PP orc 77 [.tv [] qt3 (x0_0, (x0_1, (x0_2, (x0_3, (x0_4, (x0_5, ()))))))] [] Q := vcF_ok (sg := sg) (Eq.mp (by kernel_rfl) h)
end Go.Am.T
