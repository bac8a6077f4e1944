/-
  A part of the proof of a law: see the text that states it.
-/
import Derived.Test.YtgfkdbplahpknaaHead
set_option linter.all false
namespace Go.Am.T
open Go
set_option maxRecDepth 100000
set_option maxHeartbeats 40000000
theorem vc40 (x1_0 : List qT2) (x1_1 : List qT2) (x1_2 : List ((Int × (List (Int) × (Int × Unit))))) (x1_3 : List (Int)) (x1_4 : List (Int)) (x1_5 : List qT2) (x2 : Int) (g3 : Nat) (l3 : List (((Int × (Int × ((Int × (Int × (Int × Unit))) × (List (Int) × (Bool × (Bool × Unit)))))) × (Int × Unit)))) (n3 : Nat) (o0_0_2 : Int) (o0_0_0_0 : Int) (o0_0_0_1 : Int) (o0_0_0_2 : Int) (Q : AV → Heap → Prop) (h :
(∃ y0 y1 y2 y3 y4 : Int,
 (∃ y5 : qT2,
 (∃ y6 y7 y8 : Bool,
 (∃ y9 y10 : Nat,
 (∃ y11 y12 y13 y14 : Int,
 (∃ y15 : Nat,
 (∃ y16 : qT0,
 (Need (E 45 [(.op (0, 0) []), (.tv [] (.int .i64) x2)] (hq5 g3 n3 o0_0_2 o0_0_0_0 o0_0_0_1 o0_0_0_2 l3) (.tup [(.tv [] qt12 (y0, (y1, ((y2, (y3, (y4, ()))), (y5, (y6, (y7, ()))))))), (.tv [] .bool y8)]) (hq4 y9 y10 y11 y12 y13 y14 y15 y16)) ∧
 ((((!y8) = true) →
 (Q (.tv [] .str (List.map (fun v18 => (((BitVec.toNat (UInt8.toBitVec v18)) : Nat) : Int)) [])) (hq0 y9 y10 y11 y12 y13 y14 y15 y16))) ∧
 (((!y8) = false) →
 (∃ y20 : Int,
 (∃ y21 y22 : Nat,
 (∃ y23 y24 y25 y26 : Int,
 (∃ y27 : Nat,
 (∃ y28 : qT0,
 (Need (E 19 [(.op (0, 0) []), (.tv [] (.int .i64) x2)] (hq0 y9 y10 y11 y12 y13 y14 y15 y16) (.tv [] (.int .i64) y20) (hq0 y21 y22 y23 y24 y25 y26 y27 y28)) ∧
 (∃ y29 : qT2,
 (Need (E 61 [(.tv [] qt3 (x1_0, (x1_1, (x1_2, (x1_3, (x1_4, (x1_5, ()))))))), (.tv [] (.int .i64) y20)] [] (.tv [] .str y29) []) ∧
 (∃ y30 : Bool,
 (∃ y31 y32 : Nat,
 (∃ y33 y34 y35 y36 : Int,
 (∃ y37 : Nat,
 (∃ y38 : qT0,
 (Need (E 36 [(.op (0, 0) []), (.tv [] (.int .i64) x2)] (hq0 y21 y22 y23 y24 y25 y26 y27 y28) (.tv [] .bool y30) (hq0 y31 y32 y33 y34 y35 y36 y37 y38)) ∧
 (((y30 = true) →
 (Q (.tv [] .str y29) (hq0 y31 y32 y33 y34 y35 y36 y37 y38))) ∧
 ((y30 = false) →
 (Need ((1 + y29.length) ≤ bigN) ∧
 (∃ y41 : qT2,
 (∃ y42 y43 : Nat,
 (∃ y44 y45 y46 y47 : Int,
 (∃ y48 : Nat,
 (∃ y49 : qT0,
 (Need (E 14 [(.op (0, 0) []), (.tv [] (.int .i64) x2)] (hq0 y31 y32 y33 y34 y35 y36 y37 y38) (.tv [[]] qt8 y41) (hq0 y42 y43 y44 y45 y46 y47 y48 y49)) ∧
 (∃ y50 : (qT7 → (Int → (Int → (Int → (Int → (Int → (Int → (Int → (Int → (qT0 → Prop)))))))))),
 (∃ y51 : (qT7 → (Int → (Int → (Int → (Int → (Int → (Int → (Int → (Int → (qT0 → Nat)))))))))),
 (Need (y49.length = y49.length) ∧
 ((y50 [([(40 : Int)] ++ y29)] (0 : Int) (y42 : Int) (y43 : Int) y44 y45 y46 y47 (y48 : Int) y49) ∧
 (∀ z52 : qT7,
 (∀ z53 z54 z55 z56 z57 z58 z59 z60 : Int,
 (∀ z61 : qT0,
 ((y50 z52 z53 z54 z55 z56 z57 z58 z59 z60 z61) →
 ((((decide (z53 < (y41.length : Int))) = true) →
 (Need ((0 ≤ z53) ∧ (z53 < (y41.length : Int))) ∧
 (∃ y64 : qT2,
 (∃ y65 y66 : Nat,
 (∃ y67 y68 y69 y70 : Int,
 (∃ y71 : Nat,
 (∃ y72 : qT0,
 (Need (E 40 [(.op (0, 0) []), (.tv [] qt3 (x1_0, (x1_1, (x1_2, (x1_3, (x1_4, (x1_5, ()))))))), (.tv [] (.int .i64) (List.getD y41 z53.toNat (0 : Int)))] (hq0 z54.toNat z55.toNat z56 z57 z58 z59 z60.toNat z61) (.tv [] .str y64) (hq0 y65 y66 y67 y68 y69 y70 y71 y72)) ∧
 (Need ((z52.length + (List.length [y64])) ≤ bigN) ∧
 (Need ((-9223372036854775808 ≤ (z53 + 1)) ∧ ((z53 + 1) ≤ 9223372036854775807)) ∧
 (Need (((y0, (y1, ((y2, (y3, (y4, ()))), (y5, (y6, (y7, ())))))) = (y0, (y1, ((y2, (y3, (y4, ()))), (y5, (y6, (y7, ()))))))) ∧ (y72.length = y72.length)) ∧
 ((y50 (z52 ++ [y64]) (z53 + 1) (y65 : Int) (y66 : Int) y67 y68 y69 y70 (y71 : Int) y72) ∧
  Need ((y51 (z52 ++ [y64]) (z53 + 1) (y65 : Int) (y66 : Int) y67 y68 y69 y70 (y71 : Int) y72) < (y51 z52 z53 z54 z55 z56 z57 z58 z59 z60 z61)))))))))))))) ∧
 (((decide (z53 < (y41.length : Int))) = false) →
 (∃ y74 : qT2,
 (Need (E 62 [(.tv [] (.slice .str) z52), (.tv [] .str (List.map (fun v75 => (((BitVec.toNat (UInt8.toBitVec v75)) : Nat) : Int)) [(32 : UInt8)]))] [] (.tv [] .str y74) []) ∧
 (Need ((y74.length + 1) ≤ bigN) ∧
 (Q (.tv [] .str (y74 ++ [(41 : Int)])) (hq0 z54.toNat z55.toNat z56 z57 z58 z59 z60.toNat z61))))))))))))))))))))))))))))))))))))))))))))))))) : EvF PP orc 40 [.op (0, 0) [], .tv [] qt3 (x1_0, (x1_1, (x1_2, (x1_3, (x1_4, (x1_5, ())))))), .tv [] (.int .i64) x2] (hq7 g3 n3 o0_0_2 o0_0_0_0 o0_0_0_1 o0_0_0_2 l3) Q := vcF_ok (sg := sg) (Eq.mp (by kernel_rfl) h)
end Go.Am.T
