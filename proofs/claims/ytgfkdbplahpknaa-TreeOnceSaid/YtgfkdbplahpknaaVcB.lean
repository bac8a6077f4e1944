/-
  A part of the proof of a law: see the text that states it.
-/
import Derived.Test.YtgfkdbplahpknaaHead
set_option linter.all false
namespace Go.Am.T
open Go
set_option maxRecDepth 100000
set_option maxHeartbeats 4000000
theorem vc56 (x1 : Int) (x2 : Int) (x3 : List (Int)) (g2 : Nat) (l2 : List ((Bool × (Int × (Int × ((Int × (Int × (Int × Unit))) × (List (Int) × (Bool × Unit)))))))) (o0_0_0 : Int) (o0_0_1 : Int) (o0_0_2 : Int) (Q : AV → Heap → Prop) (h :
(∃ y0 : (Int → (Int → (Int → (Int → (Int → (Int → (Int → (qT1 → Prop)))))))),
 (∃ y1 : (Int → (Int → (Int → (Int → (Int → (Int → (Int → (qT1 → Nat)))))))),
 (Need ((List.length l2) = (List.length l2)) ∧
 ((y0 (0 : Int) (g2 : Int) ((List.length l2) : Int) o0_0_0 o0_0_1 o0_0_2 (g2 : Int) l2) ∧
 (∀ z2 : Int,
 (∀ z3 : Int,
 (∀ z4 : Int,
 (∀ z5 : Int,
 (∀ z6 : Int,
 (∀ z7 : Int,
 (∀ z8 : Int,
 (∀ z9 : qT1,
 ((y0 z2 z3 z4 z5 z6 z7 z8 z9) →
 ((((decide (z2 < ((List.length x3) : Int))) = true) →
  (Need (((0 : Int) ≤ z2) ∧ (z2 < ((List.length x3) : Int))) ∧
  ((((decide ((List.getD x3 (Int.toNat z2) (0 : Int)) < (0 : Int))) = true) →
   (Q (.tup [(.tv [] (.int .i64) (0 : Int)), (.tv [] (.int .i64) (2 : Int))]) [((0, 0), ⟨⟨qt6, ((Option.some (0, 1)), ((Option.some ((0, 2), ((Int.toNat z3), (0, (Int.toNat z4))))), ()))⟩, []⟩), ((0, 1), ⟨⟨qt1, (z5, (z6, (z7, ())))⟩, []⟩), ((0, 2), ⟨⟨(.arr (Nat.succ (Int.toNat z8)) (List.length z9) qt2), z9⟩, []⟩)])) ∧
  (((decide ((List.getD x3 (Int.toNat z2) (0 : Int)) < (0 : Int))) = false) →
  (Need (((0 : Int) ≤ z2) ∧ (z2 < ((List.length x3) : Int))) ∧
  ((((decide (((Int.toNat z4) : Int) ≤ (List.getD x3 (Int.toNat z2) (0 : Int)))) = true) →
   (Q (.tup [(.tv [] (.int .i64) (0 : Int)), (.tv [] (.int .i64) (2 : Int))]) [((0, 0), ⟨⟨qt6, ((Option.some (0, 1)), ((Option.some ((0, 2), ((Int.toNat z3), (0, (Int.toNat z4))))), ()))⟩, []⟩), ((0, 1), ⟨⟨qt1, (z5, (z6, (z7, ())))⟩, []⟩), ((0, 2), ⟨⟨(.arr (Nat.succ (Int.toNat z8)) (List.length z9) qt2), z9⟩, []⟩)])) ∧
  (((decide (((Int.toNat z4) : Int) ≤ (List.getD x3 (Int.toNat z2) (0 : Int)))) = false) →
  (Need (((-9223372036854775808 : Int) ≤ (z2 + (1 : Int))) ∧ ((z2 + (1 : Int)) ≤ (9223372036854775807 : Int))) ∧
  (Need ((List.length z9) = (List.length z9)) ∧
  ((y0 (z2 + (1 : Int)) ((Int.toNat z3) : Int) ((Int.toNat z4) : Int) z5 z6 z7 ((Int.toNat z8) : Int) z9) ∧
  Need ((y1 (z2 + (1 : Int)) ((Int.toNat z3) : Int) ((Int.toNat z4) : Int) z5 z6 z7 ((Int.toNat z8) : Int) z9) < (y1 z2 z3 z4 z5 z6 z7 z8 z9)))))))))))) ∧
 (((decide (z2 < ((List.length x3) : Int))) = false) →
 (∃ y17 : (Int → (Int → (Int → (Int → (Int → (Int → (Int → (qT1 → Prop)))))))),
 (∃ y18 : (Int → (Int → (Int → (Int → (Int → (Int → (Int → (qT1 → Nat)))))))),
 (Need ((List.length z9) = (List.length z9)) ∧
 ((y17 (0 : Int) ((Int.toNat z3) : Int) ((Int.toNat z4) : Int) z5 z6 z7 ((Int.toNat z8) : Int) z9) ∧
 (∀ z19 : Int,
 (∀ z20 : Int,
 (∀ z21 : Int,
 (∀ z22 : Int,
 (∀ z23 : Int,
 (∀ z24 : Int,
 (∀ z25 : Int,
 (∀ z26 : qT1,
 ((y17 z19 z20 z21 z22 z23 z24 z25 z26) →
 ((((decide (z19 < ((List.length x3) : Int))) = true) →
  (Need (((0 : Int) ≤ z19) ∧ (z19 < ((List.length x3) : Int))) ∧
  (Need (((0 : Int) ≤ (List.getD x3 (Int.toNat z19) (0 : Int))) ∧ ((List.getD x3 (Int.toNat z19) (0 : Int)) < ((Int.toNat z21) : Int))) ∧
  (Need ((Int.toNat z25) = (Int.toNat z20)) ∧
  (Need ((0 + (Int.toNat (List.getD x3 (Int.toNat z19) (0 : Int)))) < (List.length z26)) ∧
  (Need ((Int.toNat z25) = (Int.toNat z20)) ∧
  (Need ((0 + (Int.toNat (List.getD x3 (Int.toNat z19) (0 : Int)))) < (List.length z26)) ∧
  ((((List.getD z26 (0 + (Int.toNat (List.getD x3 (Int.toNat z19) (0 : Int)))) (false, ((0 : Int), ((0 : Int), (((0 : Int), ((0 : Int), ((0 : Int), ()))), ([], (false, ()))))))).2.2.2.2.2.1 = true) →
   (Q (.tup [(.tv [] (.int .i64) (0 : Int)), (.tv [] (.int .i64) (15 : Int))]) [((0, 0), ⟨⟨qt6, ((Option.some (0, 1)), ((Option.some ((0, 2), ((Int.toNat z20), (0, (Int.toNat z21))))), ()))⟩, []⟩), ((0, 1), ⟨⟨qt1, (z22, (z23, (z24, ())))⟩, []⟩), ((0, 2), ⟨⟨(.arr (Nat.succ (Int.toNat z25)) (List.length z26) qt2), z26⟩, []⟩)])) ∧
  (((List.getD z26 (0 + (Int.toNat (List.getD x3 (Int.toNat z19) (0 : Int)))) (false, ((0 : Int), ((0 : Int), (((0 : Int), ((0 : Int), ((0 : Int), ()))), ([], (false, ()))))))).2.2.2.2.2.1 = false) →
  (Need (((0 : Int) ≤ (0 : Int)) ∧ (((0 : Int) ≤ z19) ∧ (z19 ≤ ((List.length x3) : Int)))) ∧
  (Need (((0 : Int) ≤ z19) ∧ (z19 < ((List.length x3) : Int))) ∧
  (∃ y31 : Bool,
  (Need (E 75 [(.tv [] qt12 (cut x3 0 (Int.toNat z19))), (.tv [] (.int .i64) (List.getD x3 (Int.toNat z19) (0 : Int)))] [] (.tv [] .bool y31) []) ∧
  (((y31 = true) →
   (Q (.tup [(.tv [] (.int .i64) (0 : Int)), (.tv [] (.int .i64) (15 : Int))]) [((0, 0), ⟨⟨qt6, ((Option.some (0, 1)), ((Option.some ((0, 2), ((Int.toNat z20), (0, (Int.toNat z21))))), ()))⟩, []⟩), ((0, 1), ⟨⟨qt1, (z22, (z23, (z24, ())))⟩, []⟩), ((0, 2), ⟨⟨(.arr (Nat.succ (Int.toNat z25)) (List.length z26) qt2), z26⟩, []⟩)])) ∧
  ((y31 = false) →
  (Need (((-9223372036854775808 : Int) ≤ (z19 + (1 : Int))) ∧ ((z19 + (1 : Int)) ≤ (9223372036854775807 : Int))) ∧
  (Need ((List.length z26) = (List.length z26)) ∧
  ((y17 (z19 + (1 : Int)) ((Int.toNat z20) : Int) ((Int.toNat z21) : Int) z22 z23 z24 ((Int.toNat z25) : Int) z26) ∧
  Need ((y18 (z19 + (1 : Int)) ((Int.toNat z20) : Int) ((Int.toNat z21) : Int) z22 z23 z24 ((Int.toNat z25) : Int) z26) < (y18 z19 z20 z21 z22 z23 z24 z25 z26)))))))))))))))))))) ∧
 (((decide (z19 < ((List.length x3) : Int))) = false) →
 (Need (((-9223372036854775808 : Int) ≤ ((1 : Int) + ((List.length x3) : Int))) ∧ (((1 : Int) + ((List.length x3) : Int)) ≤ (9223372036854775807 : Int))) ∧
 (∃ y35 : Int,
 (∃ y36 : Int,
 (∃ y37 : Int,
 (∃ y38 : Int,
 (Need (E 74 [(.op (0, 0) []), (.tv [] (.int .i64) ((1 : Int) + ((List.length x3) : Int)))] [((0, 0), ⟨⟨qt1, (z22, (z23, (z24, ())))⟩, []⟩)] (.tv [] (.int .i64) y35) [((0, 0), ⟨⟨qt1, (y36, (y37, (y38, ())))⟩, []⟩)]) ∧
 ((((decide (y35 ≠ (0 : Int))) = true) →
  (Q (.tup [(.tv [] (.int .i64) (0 : Int)), (.tv [] (.int .i64) y35)]) [((0, 0), ⟨⟨qt6, ((Option.some (0, 1)), ((Option.some ((0, 2), ((Int.toNat z20), (0, (Int.toNat z21))))), ()))⟩, []⟩), ((0, 1), ⟨⟨qt1, (y36, (y37, (y38, ())))⟩, []⟩), ((0, 2), ⟨⟨(.arr (Nat.succ (Int.toNat z25)) (List.length z26) qt2), z26⟩, []⟩)])) ∧
 (((decide (y35 ≠ (0 : Int))) = false) →
 (∃ y41 : (Int → (Int → (Int → (Int → (Int → (Int → (Int → (qT1 → Prop)))))))),
 (∃ y42 : (Int → (Int → (Int → (Int → (Int → (Int → (Int → (qT1 → Nat)))))))),
 (Need ((List.length z26) = (List.length z26)) ∧
 ((y41 (0 : Int) ((Int.toNat z20) : Int) ((Int.toNat z21) : Int) y36 y37 y38 ((Int.toNat z25) : Int) z26) ∧
 (∀ z43 : Int,
 (∀ z44 : Int,
 (∀ z45 : Int,
 (∀ z46 : Int,
 (∀ z47 : Int,
 (∀ z48 : Int,
 (∀ z49 : Int,
 (∀ z50 : qT1,
 ((y41 z43 z44 z45 z46 z47 z48 z49 z50) →
 ((((decide (z43 < ((List.length x3) : Int))) = true) →
  (Need (((0 : Int) ≤ z43) ∧ (z43 < ((List.length x3) : Int))) ∧
  (Need (((0 : Int) ≤ (List.getD x3 (Int.toNat z43) (0 : Int))) ∧ ((List.getD x3 (Int.toNat z43) (0 : Int)) < ((Int.toNat z45) : Int))) ∧
  (Need ((Int.toNat z49) = (Int.toNat z44)) ∧
  (Need ((0 + (Int.toNat (List.getD x3 (Int.toNat z43) (0 : Int)))) < (List.length z50)) ∧
  (Need ((Int.toNat z49) = (Int.toNat z44)) ∧
  (Need ((0 + (Int.toNat (List.getD x3 (Int.toNat z43) (0 : Int)))) < (List.length z50)) ∧
  (Need (((-9223372036854775808 : Int) ≤ (z43 + (1 : Int))) ∧ ((z43 + (1 : Int)) ≤ (9223372036854775807 : Int))) ∧
  (Need ((List.length z50) = (List.length (List.set z50 (0 + (Int.toNat (List.getD x3 (Int.toNat z43) (0 : Int)))) ((List.getD z50 (0 + (Int.toNat (List.getD x3 (Int.toNat z43) (0 : Int)))) (false, ((0 : Int), ((0 : Int), (((0 : Int), ((0 : Int), ((0 : Int), ()))), ([], (false, ()))))))).1, ((List.getD z50 (0 + (Int.toNat (List.getD x3 (Int.toNat z43) (0 : Int)))) (false, ((0 : Int), ((0 : Int), (((0 : Int), ((0 : Int), ((0 : Int), ()))), ([], (false, ()))))))).2.1, ((List.getD z50 (0 + (Int.toNat (List.getD x3 (Int.toNat z43) (0 : Int)))) (false, ((0 : Int), ((0 : Int), (((0 : Int), ((0 : Int), ((0 : Int), ()))), ([], (false, ()))))))).2.2.1, ((List.getD z50 (0 + (Int.toNat (List.getD x3 (Int.toNat z43) (0 : Int)))) (false, ((0 : Int), ((0 : Int), (((0 : Int), ((0 : Int), ((0 : Int), ()))), ([], (false, ()))))))).2.2.2.1, ((List.getD z50 (0 + (Int.toNat (List.getD x3 (Int.toNat z43) (0 : Int)))) (false, ((0 : Int), ((0 : Int), (((0 : Int), ((0 : Int), ((0 : Int), ()))), ([], (false, ()))))))).2.2.2.2.1, (true, (List.getD z50 (0 + (Int.toNat (List.getD x3 (Int.toNat z43) (0 : Int)))) (false, ((0 : Int), ((0 : Int), (((0 : Int), ((0 : Int), ((0 : Int), ()))), ([], (false, ()))))))).2.2.2.2.2.2))))))))) ∧
  ((y41 (z43 + (1 : Int)) ((Int.toNat z44) : Int) ((Int.toNat z45) : Int) z46 z47 z48 ((Int.toNat z49) : Int) (List.set z50 (0 + (Int.toNat (List.getD x3 (Int.toNat z43) (0 : Int)))) ((List.getD z50 (0 + (Int.toNat (List.getD x3 (Int.toNat z43) (0 : Int)))) (false, ((0 : Int), ((0 : Int), (((0 : Int), ((0 : Int), ((0 : Int), ()))), ([], (false, ()))))))).1, ((List.getD z50 (0 + (Int.toNat (List.getD x3 (Int.toNat z43) (0 : Int)))) (false, ((0 : Int), ((0 : Int), (((0 : Int), ((0 : Int), ((0 : Int), ()))), ([], (false, ()))))))).2.1, ((List.getD z50 (0 + (Int.toNat (List.getD x3 (Int.toNat z43) (0 : Int)))) (false, ((0 : Int), ((0 : Int), (((0 : Int), ((0 : Int), ((0 : Int), ()))), ([], (false, ()))))))).2.2.1, ((List.getD z50 (0 + (Int.toNat (List.getD x3 (Int.toNat z43) (0 : Int)))) (false, ((0 : Int), ((0 : Int), (((0 : Int), ((0 : Int), ((0 : Int), ()))), ([], (false, ()))))))).2.2.2.1, ((List.getD z50 (0 + (Int.toNat (List.getD x3 (Int.toNat z43) (0 : Int)))) (false, ((0 : Int), ((0 : Int), (((0 : Int), ((0 : Int), ((0 : Int), ()))), ([], (false, ()))))))).2.2.2.2.1, (true, (List.getD z50 (0 + (Int.toNat (List.getD x3 (Int.toNat z43) (0 : Int)))) (false, ((0 : Int), ((0 : Int), (((0 : Int), ((0 : Int), ((0 : Int), ()))), ([], (false, ()))))))).2.2.2.2.2.2)))))))) ∧
  Need ((y42 (z43 + (1 : Int)) ((Int.toNat z44) : Int) ((Int.toNat z45) : Int) z46 z47 z48 ((Int.toNat z49) : Int) (List.set z50 (0 + (Int.toNat (List.getD x3 (Int.toNat z43) (0 : Int)))) ((List.getD z50 (0 + (Int.toNat (List.getD x3 (Int.toNat z43) (0 : Int)))) (false, ((0 : Int), ((0 : Int), (((0 : Int), ((0 : Int), ((0 : Int), ()))), ([], (false, ()))))))).1, ((List.getD z50 (0 + (Int.toNat (List.getD x3 (Int.toNat z43) (0 : Int)))) (false, ((0 : Int), ((0 : Int), (((0 : Int), ((0 : Int), ((0 : Int), ()))), ([], (false, ()))))))).2.1, ((List.getD z50 (0 + (Int.toNat (List.getD x3 (Int.toNat z43) (0 : Int)))) (false, ((0 : Int), ((0 : Int), (((0 : Int), ((0 : Int), ((0 : Int), ()))), ([], (false, ()))))))).2.2.1, ((List.getD z50 (0 + (Int.toNat (List.getD x3 (Int.toNat z43) (0 : Int)))) (false, ((0 : Int), ((0 : Int), (((0 : Int), ((0 : Int), ((0 : Int), ()))), ([], (false, ()))))))).2.2.2.1, ((List.getD z50 (0 + (Int.toNat (List.getD x3 (Int.toNat z43) (0 : Int)))) (false, ((0 : Int), ((0 : Int), (((0 : Int), ((0 : Int), ((0 : Int), ()))), ([], (false, ()))))))).2.2.2.2.1, (true, (List.getD z50 (0 + (Int.toNat (List.getD x3 (Int.toNat z43) (0 : Int)))) (false, ((0 : Int), ((0 : Int), (((0 : Int), ((0 : Int), ((0 : Int), ()))), ([], (false, ()))))))).2.2.2.2.2.2)))))))) < (y42 z43 z44 z45 z46 z47 z48 z49 z50)))))))))))) ∧
 (((decide (z43 < ((List.length x3) : Int))) = false) →
 (Need ((0 + (List.length x3)) ≤ bigN) ∧
 (Need (((Int.toNat z44) = (Int.toNat z49)) ∧ (((Int.toNat z45) ≤ (List.length z50)) ∧ ((0 < (List.length [((false, (x1, (x2, (((0 : Int), ((0 : Int), ((0 : Int), ()))), (([] ++ x3), (false, ())))))) : Bool × Int × Int × (Int × Int × Int × Unit) × List Int × Bool × Unit)])) ∧ (((List.length z50) + (List.length [((false, (x1, (x2, (((0 : Int), ((0 : Int), ((0 : Int), ()))), (([] ++ x3), (false, ())))))) : Bool × Int × Int × (Int × Int × Int × Unit) × List Int × Bool × Unit)])) ≤ bigN)))) ∧
 (Need (((-9223372036854775808 : Int) ≤ (((((Int.toNat z45) + (List.length [((false, (x1, (x2, (((0 : Int), ((0 : Int), ((0 : Int), ()))), (([] ++ x3), (false, ())))))) : Bool × Int × Int × (Int × Int × Int × Unit) × List Int × Bool × Unit)])) : Nat) : Int) - (1 : Int))) ∧ ((((((Int.toNat z45) + (List.length [((false, (x1, (x2, (((0 : Int), ((0 : Int), ((0 : Int), ()))), (([] ++ x3), (false, ())))))) : Bool × Int × Int × (Int × Int × Int × Unit) × List Int × Bool × Unit)])) : Nat) : Int) - (1 : Int)) ≤ (9223372036854775807 : Int))) ∧
 (Q (.tup [(.tv [] (.int .i64) (((((Int.toNat z45) + (List.length [((false, (x1, (x2, (((0 : Int), ((0 : Int), ((0 : Int), ()))), (([] ++ x3), (false, ())))))) : Bool × Int × Int × (Int × Int × Int × Unit) × List Int × Bool × Unit)])) : Nat) : Int) - (1 : Int))), (.tv [] (.int .i64) (0 : Int))]) [((0, 0), ⟨⟨qt6, ((Option.some (0, 1)), ((Option.some ((0, 2), ((Nat.succ (Int.toNat z49)), (0, ((Int.toNat z45) + (List.length [((false, (x1, (x2, (((0 : Int), ((0 : Int), ((0 : Int), ()))), (([] ++ x3), (false, ())))))) : Bool × Int × Int × (Int × Int × Int × Unit) × List Int × Bool × Unit)])))))), ()))⟩, []⟩), ((0, 1), ⟨⟨qt1, (z46, (z47, (z48, ())))⟩, []⟩), ((0, 2), ⟨⟨(.arr (Nat.succ (Nat.succ (Int.toNat z49))) ((Int.toNat z45) + (List.length [((false, (x1, (x2, (((0 : Int), ((0 : Int), ((0 : Int), ()))), (([] ++ x3), (false, ())))))) : Bool × Int × Int × (Int × Int × Int × Unit) × List Int × Bool × Unit)])) qt2), ((List.take (Int.toNat z45) z50) ++ [((false, (x1, (x2, (((0 : Int), ((0 : Int), ((0 : Int), ()))), (([] ++ x3), (false, ())))))) : Bool × Int × Int × (Int × Int × Int × Unit) × List Int × Bool × Unit)])⟩, []⟩)])))))))))))))))))))))))))))))))))))))))))))))))))))))))))) : EvF PP orc 56 [.op (0, 0) [], .tv [] (.int .i64) x1, .tv [] (.int .i64) x2, .tv [] qt12 x3] [((0, 0), ⟨⟨qt6, ((some (0, 1)), ((some ((0, 2), g2, 0, l2.length)), ()))⟩, []⟩), ((0, 1), ⟨⟨qt1, (o0_0_0, (o0_0_1, (o0_0_2, ())))⟩, []⟩), ((0, 2), ⟨⟨.arr (Nat.succ g2) l2.length qt2, l2⟩, []⟩)] Q := vcF_ok (sg := sg) (Eq.mp (by kernel_rfl) h)
end Go.Am.T
