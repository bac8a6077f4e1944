/-
  A part of the proof of a law: see the text that states it.
-/
import Derived.Test.YtgfkdbplahpknaaHead
set_option linter.all false
namespace Go.Am.T
open Go
set_option maxRecDepth 100000
set_option maxHeartbeats 4000000
theorem vc54 (x1_0 : List qT2) (x1_1 : List qT2) (x1_2 : List ((Int × (List (Int) × (Int × Unit))))) (x1_3 : List (Int)) (x1_4 : List (Int)) (x1_5 : List qT2) (x2 : Int) (g3 : Nat) (l3 : List (((Int × (Int × ((Int × (Int × (Int × Unit))) × (List (Int) × (Bool × (Bool × Unit)))))) × (Int × Unit)))) (n3 : Nat) (o0_0_2 : Int) (o0_0_0_0 : Int) (o0_0_0_1 : Int) (o0_0_0_2 : Int) (Q : AV → Heap → Prop) (h :
(∃ y0 : Bool,
 (∃ y1 y2 : Nat,
 (∃ y3 y4 y5 y6 : Int,
 (∃ y7 : Nat,
 (∃ y8 : qT0,
 (Need (E 36 [(.op (0, 0) []), (.tv [] (.int .i64) x2)] (hq12 g3 n3 o0_0_2 o0_0_0_0 o0_0_0_1 o0_0_0_2 l3) (.tv [] .bool y0) (hq0 y1 y2 y3 y4 y5 y6 y7 y8)) ∧
 (((y0 = true) →
 (∃ y10 : Int,
 (∃ y11 y12 : Nat,
 (∃ y13 y14 y15 y16 : Int,
 (∃ y17 : Nat,
 (∃ y18 : qT0,
 (Need (E 19 [(.op (0, 0) []), (.tv [] (.int .i64) x2)] (hq0 y1 y2 y3 y4 y5 y6 y7 y8) (.tv [] (.int .i64) y10) (hq0 y11 y12 y13 y14 y15 y16 y17 y18)) ∧
 ((((decide (0 < y10)) = true) →
 (∃ y20 : Int,
 (∃ y21 y22 : Nat,
 (∃ y23 y24 y25 y26 : Int,
 (∃ y27 : Nat,
 (∃ y28 : qT0,
 (Need (E 19 [(.op (0, 0) []), (.tv [] (.int .i64) x2)] (hq0 y11 y12 y13 y14 y15 y16 y17 y18) (.tv [] (.int .i64) y20) (hq0 y21 y22 y23 y24 y25 y26 y27 y28)) ∧
 (∃ y29 : Bool,
 (Need (E 72 [(.tv [] qt4 (x1_0, (x1_1, (x1_2, (x1_3, (x1_4, (x1_5, ()))))))), (.tv [] (.int .i64) y20)] [] (.tv [] .bool y29) []) ∧
 (Q (.tv [] .bool y29) (hq0 y21 y22 y23 y24 y25 y26 y27 y28))))))))))) ∧
 (((decide (0 < y10)) = false) →
 (Q (.tv [] .bool false) (hq0 y11 y12 y13 y14 y15 y16 y17 y18))))))))))) ∧
 ((y0 = false) →
 (∃ y32 : Int,
 (∃ y33 y34 : Nat,
 (∃ y35 y36 y37 y38 : Int,
 (∃ y39 : Nat,
 (∃ y40 : qT0,
 (Need (E 18 [(.op (0, 0) []), (.tv [] (.int .i64) x2)] (hq0 y1 y2 y3 y4 y5 y6 y7 y8) (.tv [] (.int .i64) y32) (hq0 y33 y34 y35 y36 y37 y38 y39 y40)) ∧
 ((((decide (y32 < 1)) = true) →
 (Q (.tv [] .bool false) (hq0 y33 y34 y35 y36 y37 y38 y39 y40))) ∧
 (((decide (y32 < 1)) = false) →
 ((((decide ((x1_2.length : Int) ≤ y32)) = true) →
 (Q (.tv [] .bool false) (hq0 y33 y34 y35 y36 y37 y38 y39 y40))) ∧
 (((decide ((x1_2.length : Int) ≤ y32)) = false) →
 (Need ((0 ≤ y32) ∧ (y32 < (x1_2.length : Int))) ∧
 (∃ y45 : Int,
 (∃ y46 y47 : Nat,
 (∃ y48 y49 y50 y51 : Int,
 (∃ y52 : Nat,
 (∃ y53 : qT0,
 (Need (E 19 [(.op (0, 0) []), (.tv [] (.int .i64) x2)] (hq0 y33 y34 y35 y36 y37 y38 y39 y40) (.tv [] (.int .i64) y45) (hq0 y46 y47 y48 y49 y50 y51 y52 y53)) ∧
 ((((decide ((List.getD x1_2 y32.toNat ((0 : Int), ([], ((0 : Int), ())))).1 ≠ y45)) = true) →
 (Q (.tv [] .bool false) (hq0 y46 y47 y48 y49 y50 y51 y52 y53))) ∧
 (((decide ((List.getD x1_2 y32.toNat ((0 : Int), ([], ((0 : Int), ())))).1 ≠ y45)) = false) →
 (∃ y56 : qT2,
 (∃ y57 y58 : Nat,
 (∃ y59 y60 y61 y62 : Int,
 (∃ y63 : Nat,
 (∃ y64 : qT0,
 (Need (E 14 [(.op (0, 0) []), (.tv [] (.int .i64) x2)] (hq0 y46 y47 y48 y49 y50 y51 y52 y53) (.tv [[]] qt8 y56) (hq0 y57 y58 y59 y60 y61 y62 y63 y64)) ∧
 (∃ y65 : (qT2 → (Int → (Int → (Int → (Int → (Int → (Int → (Int → (Int → (qT0 → Prop)))))))))),
 (∃ y66 : (qT2 → (Int → (Int → (Int → (Int → (Int → (Int → (Int → (Int → (qT0 → Nat)))))))))),
 (Need (y64.length = y64.length) ∧
 ((y65 [] (0 : Int) (y57 : Int) (y58 : Int) y59 y60 y61 y62 (y63 : Int) y64) ∧
 (∀ z67 : qT2,
 (∀ z68 z69 z70 z71 z72 z73 z74 z75 : Int,
 (∀ z76 : qT0,
 ((y65 z67 z68 z69 z70 z71 z72 z73 z74 z75 z76) →
 ((((decide (z68 < (y56.length : Int))) = true) →
 (Need ((0 ≤ z68) ∧ (z68 < (y56.length : Int))) ∧
 (∃ y79 : Int,
 (∃ y80 y81 : Nat,
 (∃ y82 y83 y84 y85 : Int,
 (∃ y86 : Nat,
 (∃ y87 : qT0,
 (Need (E 19 [(.op (0, 0) []), (.tv [] (.int .i64) (List.getD y56 z68.toNat (0 : Int)))] (hq0 z69.toNat z70.toNat z71 z72 z73 z74 z75.toNat z76) (.tv [] (.int .i64) y79) (hq0 y80 y81 y82 y83 y84 y85 y86 y87)) ∧
 (Need ((z67.length + (List.length [y79])) ≤ bigN) ∧
 (Need ((-9223372036854775808 ≤ (z68 + 1)) ∧ ((z68 + 1) ≤ 9223372036854775807)) ∧
 (Need (y87.length = y87.length) ∧
 ((y65 (z67 ++ [y79]) (z68 + 1) (y80 : Int) (y81 : Int) y82 y83 y84 y85 (y86 : Int) y87) ∧
  Need ((y66 (z67 ++ [y79]) (z68 + 1) (y80 : Int) (y81 : Int) y82 y83 y84 y85 (y86 : Int) y87) < (y66 z67 z68 z69 z70 z71 z72 z73 z74 z75 z76)))))))))))))) ∧
 (((decide (z68 < (y56.length : Int))) = false) →
 (Need ((0 ≤ y32) ∧ (y32 < (x1_2.length : Int))) ∧
 (∃ y89 : Bool,
 (Need (E 73 [(.tv [] qt8 z67), (.tv [] qt8 (List.getD x1_2 y32.toNat ((0 : Int), ([], ((0 : Int), ())))).2.1)] [] (.tv [] .bool y89) []) ∧
 (Q (.tv [] .bool y89) (hq0 z69.toNat z70.toNat z71 z72 z73 z74 z75.toNat z76))))))))))))))))))))))))))))))))))))))))))))))))) : EvF PP orc 54 [.op (0, 0) [], .tv [] qt4 (x1_0, (x1_1, (x1_2, (x1_3, (x1_4, (x1_5, ())))))), .tv [] (.int .i64) x2] (hq6 g3 n3 o0_0_2 o0_0_0_0 o0_0_0_1 o0_0_0_2 l3) Q := vcF_ok (sg := sg) (Eq.mp (by kernel_rfl) h)
end Go.Am.T
