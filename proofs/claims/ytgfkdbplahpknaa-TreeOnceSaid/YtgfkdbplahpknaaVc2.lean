/-
  A part of the proof of a law: see the text that states it.
-/
import Derived.Test.YtgfkdbplahpknaaHead
set_option linter.all false
namespace Go.Am.T
open Go
set_option maxRecDepth 100000
set_option maxHeartbeats 4000000
theorem vc67 (x0_0 : List ((List Int × ((List Int × (List Int × (Bool × Unit))) × Unit)))) (x0_1 : List ((List Int × (List Int × (Bool × Unit))))) (g0 : Nat) (l0 : List ((Int × (List qT2 × Unit)))) (x0_3 : List Int) (x0_4 : List ((List Int × (List qT2 × (List Int × (List Int × Unit)))))) (Q : AV → Heap → Prop) (h :
((((decide ((20 : Int) < ((List.length x0_0) : Int))) = true) →
  (Q (.tv [] .bool false) [((0, 0), ⟨⟨(.arr (Nat.succ g0) (List.length l0) qt11), l0⟩, []⟩)])) ∧
 (((decide ((20 : Int) < ((List.length x0_0) : Int))) = false) →
 ((((decide ((4 : Int) < ((List.length x0_1) : Int))) = true) →
  (Q (.tv [] .bool false) [((0, 0), ⟨⟨(.arr (Nat.succ g0) (List.length l0) qt11), l0⟩, []⟩)])) ∧
 (((decide ((4 : Int) < ((List.length x0_1) : Int))) = false) →
 ((((decide ((10 : Int) < ((List.length l0) : Int))) = true) →
  (Q (.tv [] .bool false) [((0, 0), ⟨⟨(.arr (Nat.succ g0) (List.length l0) qt11), l0⟩, []⟩)])) ∧
 (((decide ((10 : Int) < ((List.length l0) : Int))) = false) →
 ((((decide (((List.length x0_4) : Int) < (1 : Int))) = true) →
  (Q (.tv [] .bool false) [((0, 0), ⟨⟨(.arr (Nat.succ g0) (List.length l0) qt11), l0⟩, []⟩)])) ∧
 (((decide (((List.length x0_4) : Int) < (1 : Int))) = false) →
 ((((decide ((40 : Int) < ((List.length x0_4) : Int))) = true) →
  (Q (.tv [] .bool false) [((0, 0), ⟨⟨(.arr (Nat.succ g0) (List.length l0) qt11), l0⟩, []⟩)])) ∧
 (((decide ((40 : Int) < ((List.length x0_4) : Int))) = false) →
 (∃ y10 : Bool,
 (Need (E 82 [(.tv [] .str x0_3)] [] (.tv [] .bool y10) []) ∧
 ((((!y10) = true) →
  (Q (.tv [] .bool false) [((0, 0), ⟨⟨(.arr (Nat.succ g0) (List.length l0) qt11), l0⟩, []⟩)])) ∧
 (((!y10) = false) →
 (∃ y13 : (qT7 → (Int → (Int → (qT10 → Prop)))),
 (∃ y14 : (qT7 → (Int → (Int → (qT10 → Nat)))),
 (Need ((List.length l0) = (List.length l0)) ∧
 ((y13 [] (0 : Int) (g0 : Int) l0) ∧
 (∀ z15 : qT7,
 (∀ z16 : Int,
 (∀ z17 : Int,
 (∀ z18 : qT10,
 ((y13 z15 z16 z17 z18) →
 ((((decide (z16 < ((List.length x0_0) : Int))) = true) →
  (Need (((0 : Int) ≤ z16) ∧ (z16 < ((List.length x0_0) : Int))) ∧
  (Need (((List.length z15) + (List.length [(List.getD x0_0 (Int.toNat z16) (([] : List Int), (([], ([], (false, ()))), ()))).1])) ≤ bigN) ∧
  (Need (((0 : Int) ≤ z16) ∧ (z16 < ((List.length x0_0) : Int))) ∧
  (∃ y21 : Bool,
  (Need (E 83 [(.tv [] (.pair .str (.pair .str (.pair .bool .unit))) (List.getD x0_0 (Int.toNat z16) (([] : List Int), (([], ([], (false, ()))), ()))).2.1)] [] (.tv [] .bool y21) []) ∧
  ((((!y21) = true) →
   (Q (.tv [] .bool false) [((0, 0), ⟨⟨(.arr (Nat.succ (Int.toNat z17)) (List.length z18) qt11), z18⟩, []⟩)])) ∧
  (((!y21) = false) →
  (Need (((-9223372036854775808 : Int) ≤ (z16 + (1 : Int))) ∧ ((z16 + (1 : Int)) ≤ (9223372036854775807 : Int))) ∧
  (Need (((x0_0, (x0_1, ((Option.some ((0, 0), (g0, (0, (List.length l0))))), (x0_3, (x0_4, ()))))) = (x0_0, (x0_1, ((Option.some ((0, 0), (g0, (0, (List.length l0))))), (x0_3, (x0_4, ())))))) ∧ ((List.length z18) = (List.length z18))) ∧
  ((y13 (z15 ++ [(List.getD x0_0 (Int.toNat z16) (([] : List Int), (([], ([], (false, ()))), ()))).1]) (z16 + (1 : Int)) ((Int.toNat z17) : Int) z18) ∧
  Need ((y14 (z15 ++ [(List.getD x0_0 (Int.toNat z16) (([] : List Int), (([], ([], (false, ()))), ()))).1]) (z16 + (1 : Int)) ((Int.toNat z17) : Int) z18) < (y14 z15 z16 z17 z18))))))))))))) ∧
 (((decide (z16 < ((List.length x0_0) : Int))) = false) →
 (∃ y25 : (Int → (Int → (qT10 → Prop))),
 (∃ y26 : (Int → (Int → (qT10 → Nat))),
 (Need ((List.length z18) = (List.length z18)) ∧
 ((y25 (0 : Int) ((Int.toNat z17) : Int) z18) ∧
 (∀ z27 : Int,
 (∀ z28 : Int,
 (∀ z29 : qT10,
 ((y25 z27 z28 z29) →
 ((((decide (z27 < ((List.length x0_1) : Int))) = true) →
  (Need (((0 : Int) ≤ z27) ∧ (z27 < ((List.length x0_1) : Int))) ∧
  (∃ y32 : Bool,
  (Need (E 83 [(.tv [] (.pair .str (.pair .str (.pair .bool .unit))) (List.getD x0_1 (Int.toNat z27) ([], ([], (false, ())))))] [] (.tv [] .bool y32) []) ∧
  ((((!y32) = true) →
   (Q (.tv [] .bool false) [((0, 0), ⟨⟨(.arr (Nat.succ (Int.toNat z28)) (List.length z29) qt11), z29⟩, []⟩)])) ∧
  (((!y32) = false) →
  (Need (((-9223372036854775808 : Int) ≤ (z27 + (1 : Int))) ∧ ((z27 + (1 : Int)) ≤ (9223372036854775807 : Int))) ∧
  (Need (((x0_0, (x0_1, ((Option.some ((0, 0), (g0, (0, (List.length l0))))), (x0_3, (x0_4, ()))))) = (x0_0, (x0_1, ((Option.some ((0, 0), (g0, (0, (List.length l0))))), (x0_3, (x0_4, ())))))) ∧ ((List.length z29) = (List.length z29))) ∧
  ((y25 (z27 + (1 : Int)) ((Int.toNat z28) : Int) z29) ∧
  Need ((y26 (z27 + (1 : Int)) ((Int.toNat z28) : Int) z29) < (y26 z27 z28 z29))))))))))) ∧
 (((decide (z27 < ((List.length x0_1) : Int))) = false) →
 (∃ y36 : (qT7 → (Int → (Int → (qT10 → Prop)))),
 (∃ y37 : (qT7 → (Int → (Int → (qT10 → Nat)))),
 (Need ((List.length z29) = (List.length z29)) ∧
 ((y36 [] (0 : Int) ((Int.toNat z28) : Int) z29) ∧
 (∀ z38 : qT7,
 (∀ z39 : Int,
 (∀ z40 : Int,
 (∀ z41 : qT10,
 ((y36 z38 z39 z40 z41) →
 ((((decide (z39 < ((List.length l0) : Int))) = true) →
  (Need (((0 : Int) ≤ z39) ∧ (z39 < ((List.length l0) : Int))) ∧
  (Need ((Int.toNat z40) = g0) ∧
  (Need ((0 + (Int.toNat z39)) < (List.length z41)) ∧
  (Need (((List.length z38) + (List.length (List.getD z41 (0 + (Int.toNat z39)) ((0 : Int), ([], ()))).2.1)) ≤ bigN) ∧
  ((((decide ((List.getD z41 (0 + (Int.toNat z39)) ((0 : Int), ([], ()))).1 < (1 : Int))) = true) →
   (Q (.tv [] .bool false) [((0, 0), ⟨⟨(.arr (Nat.succ (Int.toNat z40)) (List.length z41) qt11), z41⟩, []⟩)])) ∧
  (((decide ((List.getD z41 (0 + (Int.toNat z39)) ((0 : Int), ([], ()))).1 < (1 : Int))) = false) →
  ((((decide ((3 : Int) < (List.getD z41 (0 + (Int.toNat z39)) ((0 : Int), ([], ()))).1)) = true) →
   (Q (.tv [] .bool false) [((0, 0), ⟨⟨(.arr (Nat.succ (Int.toNat z40)) (List.length z41) qt11), z41⟩, []⟩)])) ∧
  (((decide ((3 : Int) < (List.getD z41 (0 + (Int.toNat z39)) ((0 : Int), ([], ()))).1)) = false) →
  ((((decide (((List.length (List.getD z41 (0 + (Int.toNat z39)) ((0 : Int), ([], ()))).2.1) : Int) = (0 : Int))) = true) →
   (Q (.tv [] .bool false) [((0, 0), ⟨⟨(.arr (Nat.succ (Int.toNat z40)) (List.length z41) qt11), z41⟩, []⟩)])) ∧
  (((decide (((List.length (List.getD z41 (0 + (Int.toNat z39)) ((0 : Int), ([], ()))).2.1) : Int) = (0 : Int))) = false) →
  (Need (((-9223372036854775808 : Int) ≤ (z39 + (1 : Int))) ∧ ((z39 + (1 : Int)) ≤ (9223372036854775807 : Int))) ∧
  (Need (((x0_0, (x0_1, ((Option.some ((0, 0), (g0, (0, (List.length l0))))), (x0_3, (x0_4, ()))))) = (x0_0, (x0_1, ((Option.some ((0, 0), (g0, (0, (List.length l0))))), (x0_3, (x0_4, ())))))) ∧ ((List.length z41) = (List.length z41))) ∧
  ((y36 (z38 ++ (List.getD z41 (0 + (Int.toNat z39)) ((0 : Int), ([], ()))).2.1) (z39 + (1 : Int)) ((Int.toNat z40) : Int) z41) ∧
  Need ((y37 (z38 ++ (List.getD z41 (0 + (Int.toNat z39)) ((0 : Int), ([], ()))).2.1) (z39 + (1 : Int)) ((Int.toNat z40) : Int) z41) < (y37 z38 z39 z40 z41)))))))))))))))) ∧
 (((decide (z39 < ((List.length l0) : Int))) = false) →
 (∃ y51 : (Int → (Int → (qT10 → Prop))),
 (∃ y52 : (Int → (Int → (qT10 → Nat))),
 (Need ((List.length z41) = (List.length z41)) ∧
 ((y51 (0 : Int) ((Int.toNat z40) : Int) z41) ∧
 (∀ z53 : Int,
 (∀ z54 : Int,
 (∀ z55 : qT10,
 ((y51 z53 z54 z55) →
 ((((decide (z53 < ((List.length x0_4) : Int))) = true) →
  (Need (((0 : Int) ≤ z53) ∧ (z53 < ((List.length x0_4) : Int))) ∧
  (∃ y58 : Bool,
  (Need (E 82 [(.tv [] .str (List.getD x0_4 (Int.toNat z53) ([], ([], ([], ([], ()))))).1)] [] (.tv [] .bool y58) []) ∧
  ((((!y58) = true) →
   (Q (.tv [] .bool false) [((0, 0), ⟨⟨(.arr (Nat.succ (Int.toNat z54)) (List.length z55) qt11), z55⟩, []⟩)])) ∧
  (((!y58) = false) →
  ((((decide ((8 : Int) < ((List.length (List.getD x0_4 (Int.toNat z53) ([], ([], ([], ([], ()))))).2.1) : Int))) = true) →
   (Q (.tv [] .bool false) [((0, 0), ⟨⟨(.arr (Nat.succ (Int.toNat z54)) (List.length z55) qt11), z55⟩, []⟩)])) ∧
  (((decide ((8 : Int) < ((List.length (List.getD x0_4 (Int.toNat z53) ([], ([], ([], ([], ()))))).2.1) : Int))) = false) →
  ((((!(decide ((List.getD x0_4 (Int.toNat z53) ([], ([], ([], ([], ()))))).2.2.1 = []))) = true) →
   (∃ y64 : Bool,
   (Need (E 82 [(.tv [] .str (List.getD x0_4 (Int.toNat z53) ([], ([], ([], ([], ()))))).2.2.1)] [] (.tv [] .bool y64) []) ∧
   ((((!y64) = true) →
    (Q (.tv [] .bool false) [((0, 0), ⟨⟨(.arr (Nat.succ (Int.toNat z54)) (List.length z55) qt11), z55⟩, []⟩)])) ∧
   (((!y64) = false) →
   (∃ y67 : Bool,
   (Need (E 84 [(.tv [] .str (List.getD x0_4 (Int.toNat z53) ([], ([], ([], ([], ()))))).2.2.2.1)] [] (.tv [] .bool y67) []) ∧
   ((((!y67) = true) →
    (Q (.tv [] .bool false) [((0, 0), ⟨⟨(.arr (Nat.succ (Int.toNat z54)) (List.length z55) qt11), z55⟩, []⟩)])) ∧
   (((!y67) = false) →
   (∃ y70 : (Int → (qT2 → (qT7 → (qT2 → (qT2 → (Int → (qT10 → Prop))))))),
   (∃ y71 : (Int → (qT2 → (qT7 → (qT2 → (qT2 → (Int → (qT10 → Nat))))))),
   (Need ((List.length z55) = (List.length z55)) ∧
   ((y70 (0 : Int) (List.getD x0_4 (Int.toNat z53) ([], ([], ([], ([], ()))))).1 (List.getD x0_4 (Int.toNat z53) ([], ([], ([], ([], ()))))).2.1 (List.getD x0_4 (Int.toNat z53) ([], ([], ([], ([], ()))))).2.2.1 (List.getD x0_4 (Int.toNat z53) ([], ([], ([], ([], ()))))).2.2.2.1 ((Int.toNat z54) : Int) z55) ∧
   (∀ z72 : Int,
   (∀ z73 : qT2,
   (∀ z74 : qT7,
   (∀ z75 : qT2,
   (∀ z76 : qT2,
   (∀ z77 : Int,
   (∀ z78 : qT10,
   ((y70 z72 z73 z74 z75 z76 z77 z78) →
   ((((decide (z72 < ((List.length z74) : Int))) = true) →
    (Need (((0 : Int) ≤ z72) ∧ (z72 < ((List.length z74) : Int))) ∧
    (∃ y81 : Bool,
    (Need (E 82 [(.tv [] .str (List.getD z74 (Int.toNat z72) []))] [] (.tv [] .bool y81) []) ∧
    ((((!y81) = true) →
     (Q (.tv [] .bool false) [((0, 0), ⟨⟨(.arr (Nat.succ (Int.toNat z77)) (List.length z78) qt11), z78⟩, []⟩)])) ∧
    (((!y81) = false) →
    (Need (((-9223372036854775808 : Int) ≤ (z72 + (1 : Int))) ∧ ((z72 + (1 : Int)) ≤ (9223372036854775807 : Int))) ∧
    (Need (((x0_0, (x0_1, ((Option.some ((0, 0), (g0, (0, (List.length l0))))), (x0_3, (x0_4, ()))))) = (x0_0, (x0_1, ((Option.some ((0, 0), (g0, (0, (List.length l0))))), (x0_3, (x0_4, ())))))) ∧ ((List.length z78) = (List.length z78))) ∧
    ((y70 (z72 + (1 : Int)) z73 z74 z75 z76 ((Int.toNat z77) : Int) z78) ∧
    Need ((y71 (z72 + (1 : Int)) z73 z74 z75 z76 ((Int.toNat z77) : Int) z78) < (y71 z72 z73 z74 z75 z76 z77 z78))))))))))) ∧
   (((decide (z72 < ((List.length z74) : Int))) = false) →
   (Need (((-9223372036854775808 : Int) ≤ (z53 + (1 : Int))) ∧ ((z53 + (1 : Int)) ≤ (9223372036854775807 : Int))) ∧
   (Need (((x0_0, (x0_1, ((Option.some ((0, 0), (g0, (0, (List.length l0))))), (x0_3, (x0_4, ()))))) = (x0_0, (x0_1, ((Option.some ((0, 0), (g0, (0, (List.length l0))))), (x0_3, (x0_4, ())))))) ∧ ((List.length z78) = (List.length z78))) ∧
   ((y51 (z53 + (1 : Int)) ((Int.toNat z77) : Int) z78) ∧
   Need ((y52 (z53 + (1 : Int)) ((Int.toNat z77) : Int) z78) < (y52 z53 z54 z55)))))))))))))))))))))))))))) ∧
  (((!(decide ((List.getD x0_4 (Int.toNat z53) ([], ([], ([], ([], ()))))).2.2.1 = []))) = false) →
  (∃ y86 : Bool,
  (Need (E 84 [(.tv [] .str (List.getD x0_4 (Int.toNat z53) ([], ([], ([], ([], ()))))).2.2.2.1)] [] (.tv [] .bool y86) []) ∧
  ((((!y86) = true) →
   (Q (.tv [] .bool false) [((0, 0), ⟨⟨(.arr (Nat.succ (Int.toNat z54)) (List.length z55) qt11), z55⟩, []⟩)])) ∧
  (((!y86) = false) →
  (∃ y89 : (Int → (qT2 → (qT7 → (qT2 → (qT2 → (Int → (qT10 → Prop))))))),
  (∃ y90 : (Int → (qT2 → (qT7 → (qT2 → (qT2 → (Int → (qT10 → Nat))))))),
  (Need ((List.length z55) = (List.length z55)) ∧
  ((y89 (0 : Int) (List.getD x0_4 (Int.toNat z53) ([], ([], ([], ([], ()))))).1 (List.getD x0_4 (Int.toNat z53) ([], ([], ([], ([], ()))))).2.1 (List.getD x0_4 (Int.toNat z53) ([], ([], ([], ([], ()))))).2.2.1 (List.getD x0_4 (Int.toNat z53) ([], ([], ([], ([], ()))))).2.2.2.1 ((Int.toNat z54) : Int) z55) ∧
  (∀ z91 : Int,
  (∀ z92 : qT2,
  (∀ z93 : qT7,
  (∀ z94 : qT2,
  (∀ z95 : qT2,
  (∀ z96 : Int,
  (∀ z97 : qT10,
  ((y89 z91 z92 z93 z94 z95 z96 z97) →
  ((((decide (z91 < ((List.length z93) : Int))) = true) →
   (Need (((0 : Int) ≤ z91) ∧ (z91 < ((List.length z93) : Int))) ∧
   (∃ y100 : Bool,
   (Need (E 82 [(.tv [] .str (List.getD z93 (Int.toNat z91) []))] [] (.tv [] .bool y100) []) ∧
   ((((!y100) = true) →
    (Q (.tv [] .bool false) [((0, 0), ⟨⟨(.arr (Nat.succ (Int.toNat z96)) (List.length z97) qt11), z97⟩, []⟩)])) ∧
   (((!y100) = false) →
   (Need (((-9223372036854775808 : Int) ≤ (z91 + (1 : Int))) ∧ ((z91 + (1 : Int)) ≤ (9223372036854775807 : Int))) ∧
   (Need (((x0_0, (x0_1, ((Option.some ((0, 0), (g0, (0, (List.length l0))))), (x0_3, (x0_4, ()))))) = (x0_0, (x0_1, ((Option.some ((0, 0), (g0, (0, (List.length l0))))), (x0_3, (x0_4, ())))))) ∧ ((List.length z97) = (List.length z97))) ∧
   ((y89 (z91 + (1 : Int)) z92 z93 z94 z95 ((Int.toNat z96) : Int) z97) ∧
   Need ((y90 (z91 + (1 : Int)) z92 z93 z94 z95 ((Int.toNat z96) : Int) z97) < (y90 z91 z92 z93 z94 z95 z96 z97))))))))))) ∧
  (((decide (z91 < ((List.length z93) : Int))) = false) →
  (Need (((-9223372036854775808 : Int) ≤ (z53 + (1 : Int))) ∧ ((z53 + (1 : Int)) ≤ (9223372036854775807 : Int))) ∧
  (Need (((x0_0, (x0_1, ((Option.some ((0, 0), (g0, (0, (List.length l0))))), (x0_3, (x0_4, ()))))) = (x0_0, (x0_1, ((Option.some ((0, 0), (g0, (0, (List.length l0))))), (x0_3, (x0_4, ())))))) ∧ ((List.length z97) = (List.length z97))) ∧
  ((y51 (z53 + (1 : Int)) ((Int.toNat z96) : Int) z97) ∧
  Need ((y52 (z53 + (1 : Int)) ((Int.toNat z96) : Int) z97) < (y52 z53 z54 z55))))))))))))))))))))))))))))))))) ∧
 (((decide (z53 < ((List.length x0_4) : Int))) = false) →
 (∃ y105 : Bool,
 (Need (E 85 [(.tv [] (.slice .str) z15)] [] (.tv [] .bool y105) []) ∧
 (((y105 = true) →
  (∃ y107 : Bool,
  (Need (E 85 [(.tv [] (.slice .str) z38)] [] (.tv [] .bool y107) []) ∧
  (Q (.tv [] .bool y107) [((0, 0), ⟨⟨(.arr (Nat.succ (Int.toNat z54)) (List.length z55) qt11), z55⟩, []⟩)])))) ∧
 ((y105 = false) →
 (Q (.tv [] .bool false) [((0, 0), ⟨⟨(.arr (Nat.succ (Int.toNat z54)) (List.length z55) qt11), z55⟩, []⟩)])))))))))))))))))))))))))))))))))))))))))))))))))))))))))))))) : EvF PP orc 67 [.tv [] qt4 (x0_0, (x0_1, ((some ((0, 0), g0, 0, l0.length)), (x0_3, (x0_4, ())))))] [((0, 0), ⟨⟨.arr (Nat.succ g0) l0.length qt11, l0⟩, []⟩)] Q := vcF_ok (sg := sg) (Eq.mp (by kernel_rfl) h)
end Go.Am.T
