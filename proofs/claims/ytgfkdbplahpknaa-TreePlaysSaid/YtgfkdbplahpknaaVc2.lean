/-
  A part of the proof of a law: see the text that states it.
-/
import Derived.Test.YtgfkdbplahpknaaHead
set_option linter.all false
namespace Go.Am.T
open Go
set_option maxRecDepth 100000
set_option maxHeartbeats 4000000
theorem vc67 (x0_0 : List ((List Int × ((List Int × (List Int × (Bool × Unit))) × Unit)))) (x0_1 : List ((List Int × (List Int × (Bool × Unit))))) (g0 : Nat) (l0 : List ((Int × (List qT2 × Unit)))) (x0_3 : List Int) (x0_4 : List ((List Int × (List qT2 × (List Int × (List Int × Unit)))))) (Q : AV → Heap → Prop) (h :
((((decide ((20 : Int) < (x0_0.length : Int))) = true) →
 (Q (.tv [] .bool false) (hq3 g0 l0))) ∧
 (((decide ((20 : Int) < (x0_0.length : Int))) = false) →
 ((((decide ((4 : Int) < (x0_1.length : Int))) = true) →
 (Q (.tv [] .bool false) (hq3 g0 l0))) ∧
 (((decide ((4 : Int) < (x0_1.length : Int))) = false) →
 ((((decide ((10 : Int) < (l0.length : Int))) = true) →
 (Q (.tv [] .bool false) (hq3 g0 l0))) ∧
 (((decide ((10 : Int) < (l0.length : Int))) = false) →
 ((((decide ((x0_4.length : Int) < (1 : Int))) = true) →
 (Q (.tv [] .bool false) (hq3 g0 l0))) ∧
 (((decide ((x0_4.length : Int) < (1 : Int))) = false) →
 ((((decide ((40 : Int) < (x0_4.length : Int))) = true) →
 (Q (.tv [] .bool false) (hq3 g0 l0))) ∧
 (((decide ((40 : Int) < (x0_4.length : Int))) = false) →
 (∃ y10 : Bool,
 (Need (E 82 [(.tv [] .str x0_3)] [] (.tv [] .bool y10) []) ∧
 ((((!y10) = true) →
 (Q (.tv [] .bool false) (hq3 g0 l0))) ∧
 (((!y10) = false) →
 (∃ y13 : (qT7 → (Int → (Int → (qT9 → Prop)))),
 (∃ y14 : (qT7 → (Int → (Int → (qT9 → Nat)))),
 (Need (l0.length = l0.length) ∧
 ((y13 [] (0 : Int) (g0 : Int) l0) ∧
 (∀ z15 : qT7,
 (∀ z16 z17 : Int,
 (∀ z18 : qT9,
 ((y13 z15 z16 z17 z18) →
 ((((decide (z16 < (x0_0.length : Int))) = true) →
 (Need ((0 ≤ z16) ∧ (z16 < (x0_0.length : Int))) ∧
 (Need ((z15.length + (List.length [(List.getD x0_0 z16.toNat (([] : List Int), (([], ([], (false, ()))), ()))).1])) ≤ bigN) ∧
 (Need ((0 ≤ z16) ∧ (z16 < (x0_0.length : Int))) ∧
 (∃ y21 : Bool,
 (Need (E 83 [(.tv [] (.pair .str (.pair .str (.pair .bool .unit))) (List.getD x0_0 z16.toNat (([] : List Int), (([], ([], (false, ()))), ()))).2.1)] [] (.tv [] .bool y21) []) ∧
 ((((!y21) = true) →
 (Q (.tv [] .bool false) (hq3 z17.toNat z18))) ∧
 (((!y21) = false) →
 (Need ((-9223372036854775808 ≤ (z16 + 1)) ∧ ((z16 + 1) ≤ 9223372036854775807)) ∧
 (Need (((x0_0, (x0_1, ((some ((0, 0), (g0, (0, l0.length)))), (x0_3, (x0_4, ()))))) = (x0_0, (x0_1, ((some ((0, 0), (g0, (0, l0.length)))), (x0_3, (x0_4, ())))))) ∧ (z18.length = z18.length)) ∧
 ((y13 (z15 ++ [(List.getD x0_0 z16.toNat (([] : List Int), (([], ([], (false, ()))), ()))).1]) (z16 + 1) (z17.toNat : Int) z18) ∧
  Need ((y14 (z15 ++ [(List.getD x0_0 z16.toNat (([] : List Int), (([], ([], (false, ()))), ()))).1]) (z16 + 1) (z17.toNat : Int) z18) < (y14 z15 z16 z17 z18))))))))))))) ∧
 (((decide (z16 < (x0_0.length : Int))) = false) →
 (∃ y25 : (Int → (Int → (qT9 → Prop))),
 (∃ y26 : (Int → (Int → (qT9 → Nat))),
 (Need (z18.length = z18.length) ∧
 ((y25 (0 : Int) (z17.toNat : Int) z18) ∧
 (∀ z27 z28 : Int,
 (∀ z29 : qT9,
 ((y25 z27 z28 z29) →
 ((((decide (z27 < (x0_1.length : Int))) = true) →
 (Need ((0 ≤ z27) ∧ (z27 < (x0_1.length : Int))) ∧
 (∃ y32 : Bool,
 (Need (E 83 [(.tv [] (.pair .str (.pair .str (.pair .bool .unit))) (List.getD x0_1 z27.toNat ([], ([], (false, ())))))] [] (.tv [] .bool y32) []) ∧
 ((((!y32) = true) →
 (Q (.tv [] .bool false) (hq3 z28.toNat z29))) ∧
 (((!y32) = false) →
 (Need ((-9223372036854775808 ≤ (z27 + 1)) ∧ ((z27 + 1) ≤ 9223372036854775807)) ∧
 (Need (((x0_0, (x0_1, ((some ((0, 0), (g0, (0, l0.length)))), (x0_3, (x0_4, ()))))) = (x0_0, (x0_1, ((some ((0, 0), (g0, (0, l0.length)))), (x0_3, (x0_4, ())))))) ∧ (z29.length = z29.length)) ∧
 ((y25 (z27 + 1) (z28.toNat : Int) z29) ∧
  Need ((y26 (z27 + 1) (z28.toNat : Int) z29) < (y26 z27 z28 z29))))))))))) ∧
 (((decide (z27 < (x0_1.length : Int))) = false) →
 (∃ y36 : (qT7 → (Int → (Int → (qT9 → Prop)))),
 (∃ y37 : (qT7 → (Int → (Int → (qT9 → Nat)))),
 (Need (z29.length = z29.length) ∧
 ((y36 [] (0 : Int) (z28.toNat : Int) z29) ∧
 (∀ z38 : qT7,
 (∀ z39 z40 : Int,
 (∀ z41 : qT9,
 ((y36 z38 z39 z40 z41) →
 ((((decide (z39 < (l0.length : Int))) = true) →
 (Need ((0 ≤ z39) ∧ (z39 < (l0.length : Int))) ∧
 (Need (z40.toNat = g0) ∧
 (Need ((0 + z39.toNat) < z41.length) ∧
 (Need ((z38.length + (List.length (List.getD z41 (0 + z39.toNat) ((0 : Int), ([], ()))).2.1)) ≤ bigN) ∧
 ((((decide ((List.getD z41 (0 + z39.toNat) ((0 : Int), ([], ()))).1 < (1 : Int))) = true) →
 (Q (.tv [] .bool false) (hq3 z40.toNat z41))) ∧
 (((decide ((List.getD z41 (0 + z39.toNat) ((0 : Int), ([], ()))).1 < (1 : Int))) = false) →
 ((((decide ((3 : Int) < (List.getD z41 (0 + z39.toNat) ((0 : Int), ([], ()))).1)) = true) →
 (Q (.tv [] .bool false) (hq3 z40.toNat z41))) ∧
 (((decide ((3 : Int) < (List.getD z41 (0 + z39.toNat) ((0 : Int), ([], ()))).1)) = false) →
 ((((decide (((List.length (List.getD z41 (0 + z39.toNat) ((0 : Int), ([], ()))).2.1) : Int) = (0 : Int))) = true) →
 (Q (.tv [] .bool false) (hq3 z40.toNat z41))) ∧
 (((decide (((List.length (List.getD z41 (0 + z39.toNat) ((0 : Int), ([], ()))).2.1) : Int) = (0 : Int))) = false) →
 (Need ((-9223372036854775808 ≤ (z39 + 1)) ∧ ((z39 + 1) ≤ 9223372036854775807)) ∧
 (Need (((x0_0, (x0_1, ((some ((0, 0), (g0, (0, l0.length)))), (x0_3, (x0_4, ()))))) = (x0_0, (x0_1, ((some ((0, 0), (g0, (0, l0.length)))), (x0_3, (x0_4, ())))))) ∧ (z41.length = z41.length)) ∧
 ((y36 (z38 ++ (List.getD z41 (0 + z39.toNat) ((0 : Int), ([], ()))).2.1) (z39 + 1) (z40.toNat : Int) z41) ∧
  Need ((y37 (z38 ++ (List.getD z41 (0 + z39.toNat) ((0 : Int), ([], ()))).2.1) (z39 + 1) (z40.toNat : Int) z41) < (y37 z38 z39 z40 z41)))))))))))))))) ∧
 (((decide (z39 < (l0.length : Int))) = false) →
 (∃ y51 : (Int → (Int → (qT9 → Prop))),
 (∃ y52 : (Int → (Int → (qT9 → Nat))),
 (Need (z41.length = z41.length) ∧
 ((y51 (0 : Int) (z40.toNat : Int) z41) ∧
 (∀ z53 z54 : Int,
 (∀ z55 : qT9,
 ((y51 z53 z54 z55) →
 ((((decide (z53 < (x0_4.length : Int))) = true) →
 (Need ((0 ≤ z53) ∧ (z53 < (x0_4.length : Int))) ∧
 (∃ y58 : Bool,
 (Need (E 82 [(.tv [] .str (List.getD x0_4 z53.toNat ([], ([], ([], ([], ()))))).1)] [] (.tv [] .bool y58) []) ∧
 ((((!y58) = true) →
 (Q (.tv [] .bool false) (hq3 z54.toNat z55))) ∧
 (((!y58) = false) →
 ((((decide ((8 : Int) < ((List.length (List.getD x0_4 z53.toNat ([], ([], ([], ([], ()))))).2.1) : Int))) = true) →
 (Q (.tv [] .bool false) (hq3 z54.toNat z55))) ∧
 (((decide ((8 : Int) < ((List.length (List.getD x0_4 z53.toNat ([], ([], ([], ([], ()))))).2.1) : Int))) = false) →
 ((((!(decide ((List.getD x0_4 z53.toNat ([], ([], ([], ([], ()))))).2.2.1 = []))) = true) →
 (∃ y64 : Bool,
 (Need (E 82 [(.tv [] .str (List.getD x0_4 z53.toNat ([], ([], ([], ([], ()))))).2.2.1)] [] (.tv [] .bool y64) []) ∧
 ((((!y64) = true) →
 (Q (.tv [] .bool false) (hq3 z54.toNat z55))) ∧
 (((!y64) = false) →
 (∃ y67 : Bool,
 (Need (E 84 [(.tv [] .str (List.getD x0_4 z53.toNat ([], ([], ([], ([], ()))))).2.2.2.1)] [] (.tv [] .bool y67) []) ∧
 ((((!y67) = true) →
 (Q (.tv [] .bool false) (hq3 z54.toNat z55))) ∧
 (((!y67) = false) →
 (∃ y70 : (Int → (qT2 → (qT7 → (qT2 → (qT2 → (Int → (qT9 → Prop))))))),
 (∃ y71 : (Int → (qT2 → (qT7 → (qT2 → (qT2 → (Int → (qT9 → Nat))))))),
 (Need (z55.length = z55.length) ∧
 ((y70 (0 : Int) (List.getD x0_4 z53.toNat ([], ([], ([], ([], ()))))).1 (List.getD x0_4 z53.toNat ([], ([], ([], ([], ()))))).2.1 (List.getD x0_4 z53.toNat ([], ([], ([], ([], ()))))).2.2.1 (List.getD x0_4 z53.toNat ([], ([], ([], ([], ()))))).2.2.2.1 (z54.toNat : Int) z55) ∧
 (∀ z72 : Int,
 (∀ z73 : qT2,
 (∀ z74 : qT7,
 (∀ z75 z76 : qT2,
 (∀ z77 : Int,
 (∀ z78 : qT9,
 ((y70 z72 z73 z74 z75 z76 z77 z78) →
 ((((decide (z72 < (z74.length : Int))) = true) →
 (Need ((0 ≤ z72) ∧ (z72 < (z74.length : Int))) ∧
 (∃ y81 : Bool,
 (Need (E 82 [(.tv [] .str (List.getD z74 z72.toNat []))] [] (.tv [] .bool y81) []) ∧
 ((((!y81) = true) →
 (Q (.tv [] .bool false) (hq3 z77.toNat z78))) ∧
 (((!y81) = false) →
 (Need ((-9223372036854775808 ≤ (z72 + 1)) ∧ ((z72 + 1) ≤ 9223372036854775807)) ∧
 (Need (((x0_0, (x0_1, ((some ((0, 0), (g0, (0, l0.length)))), (x0_3, (x0_4, ()))))) = (x0_0, (x0_1, ((some ((0, 0), (g0, (0, l0.length)))), (x0_3, (x0_4, ())))))) ∧ (z78.length = z78.length)) ∧
 ((y70 (z72 + 1) z73 z74 z75 z76 (z77.toNat : Int) z78) ∧
    Need ((y71 (z72 + 1) z73 z74 z75 z76 (z77.toNat : Int) z78) < (y71 z72 z73 z74 z75 z76 z77 z78))))))))))) ∧
 (((decide (z72 < (z74.length : Int))) = false) →
 (Need ((-9223372036854775808 ≤ (z53 + 1)) ∧ ((z53 + 1) ≤ 9223372036854775807)) ∧
 (Need (((x0_0, (x0_1, ((some ((0, 0), (g0, (0, l0.length)))), (x0_3, (x0_4, ()))))) = (x0_0, (x0_1, ((some ((0, 0), (g0, (0, l0.length)))), (x0_3, (x0_4, ())))))) ∧ (z78.length = z78.length)) ∧
 ((y51 (z53 + 1) (z77.toNat : Int) z78) ∧
   Need ((y52 (z53 + 1) (z77.toNat : Int) z78) < (y52 z53 z54 z55))))))))))))))))))))))))))) ∧
 (((!(decide ((List.getD x0_4 z53.toNat ([], ([], ([], ([], ()))))).2.2.1 = []))) = false) →
 (∃ y86 : Bool,
 (Need (E 84 [(.tv [] .str (List.getD x0_4 z53.toNat ([], ([], ([], ([], ()))))).2.2.2.1)] [] (.tv [] .bool y86) []) ∧
 ((((!y86) = true) →
 (Q (.tv [] .bool false) (hq3 z54.toNat z55))) ∧
 (((!y86) = false) →
 (∃ y89 : (Int → (qT2 → (qT7 → (qT2 → (qT2 → (Int → (qT9 → Prop))))))),
 (∃ y90 : (Int → (qT2 → (qT7 → (qT2 → (qT2 → (Int → (qT9 → Nat))))))),
 (Need (z55.length = z55.length) ∧
 ((y89 (0 : Int) (List.getD x0_4 z53.toNat ([], ([], ([], ([], ()))))).1 (List.getD x0_4 z53.toNat ([], ([], ([], ([], ()))))).2.1 (List.getD x0_4 z53.toNat ([], ([], ([], ([], ()))))).2.2.1 (List.getD x0_4 z53.toNat ([], ([], ([], ([], ()))))).2.2.2.1 (z54.toNat : Int) z55) ∧
 (∀ z91 : Int,
 (∀ z92 : qT2,
 (∀ z93 : qT7,
 (∀ z94 z95 : qT2,
 (∀ z96 : Int,
 (∀ z97 : qT9,
 ((y89 z91 z92 z93 z94 z95 z96 z97) →
 ((((decide (z91 < (z93.length : Int))) = true) →
 (Need ((0 ≤ z91) ∧ (z91 < (z93.length : Int))) ∧
 (∃ y100 : Bool,
 (Need (E 82 [(.tv [] .str (List.getD z93 z91.toNat []))] [] (.tv [] .bool y100) []) ∧
 ((((!y100) = true) →
 (Q (.tv [] .bool false) (hq3 z96.toNat z97))) ∧
 (((!y100) = false) →
 (Need ((-9223372036854775808 ≤ (z91 + 1)) ∧ ((z91 + 1) ≤ 9223372036854775807)) ∧
 (Need (((x0_0, (x0_1, ((some ((0, 0), (g0, (0, l0.length)))), (x0_3, (x0_4, ()))))) = (x0_0, (x0_1, ((some ((0, 0), (g0, (0, l0.length)))), (x0_3, (x0_4, ())))))) ∧ (z97.length = z97.length)) ∧
 ((y89 (z91 + 1) z92 z93 z94 z95 (z96.toNat : Int) z97) ∧
   Need ((y90 (z91 + 1) z92 z93 z94 z95 (z96.toNat : Int) z97) < (y90 z91 z92 z93 z94 z95 z96 z97))))))))))) ∧
 (((decide (z91 < (z93.length : Int))) = false) →
 (Need ((-9223372036854775808 ≤ (z53 + 1)) ∧ ((z53 + 1) ≤ 9223372036854775807)) ∧
 (Need (((x0_0, (x0_1, ((some ((0, 0), (g0, (0, l0.length)))), (x0_3, (x0_4, ()))))) = (x0_0, (x0_1, ((some ((0, 0), (g0, (0, l0.length)))), (x0_3, (x0_4, ())))))) ∧ (z97.length = z97.length)) ∧
 ((y51 (z53 + 1) (z96.toNat : Int) z97) ∧
  Need ((y52 (z53 + 1) (z96.toNat : Int) z97) < (y52 z53 z54 z55)))))))))))))))))))))))))))))))) ∧
 (((decide (z53 < (x0_4.length : Int))) = false) →
 (∃ y105 : Bool,
 (Need (E 85 [(.tv [] (.slice .str) z15)] [] (.tv [] .bool y105) []) ∧
 (((y105 = true) →
 (∃ y107 : Bool,
 (Need (E 85 [(.tv [] (.slice .str) z38)] [] (.tv [] .bool y107) []) ∧
 (Q (.tv [] .bool y107) (hq3 z54.toNat z55))))) ∧
 ((y105 = false) →
 (Q (.tv [] .bool false) (hq3 z54.toNat z55))))))))))))))))))))))))))))))))))))))))))))))))))))))))))) : EvF PP orc 67 [.tv [] qt5 (x0_0, (x0_1, ((some ((0, 0), g0, 0, l0.length)), (x0_3, (x0_4, ())))))] (hq15 g0 l0) Q := vcF_ok (sg := sg) (Eq.mp (by kernel_rfl) h)
end Go.Am.T
