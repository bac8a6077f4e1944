/-
  A part of the proof of a law: see the text that states it.
-/
import Derived.Test.YtgfkdbplahpknaaHead
set_option linter.all false
namespace Go.Am.T
open Go
set_option maxRecDepth 100000
set_option maxHeartbeats 4000000
theorem vc68 (x0 : List qT2) (x1 : List Int) (Q : AV → Heap → Prop) (h :
(∃ y0 : (Int → Prop),
 (∃ y1 : (Int → Nat),
 ((y0 (0 : Int)) ∧
 (∀ z2 : Int,
 ((y0 z2) →
 ((((decide (z2 < (x0.length : Int))) = true) →
 (Need ((0 ≤ z2) ∧ (z2 < (x0.length : Int))) ∧
 ((((decide ((List.getD x0 z2.toNat []) = x1)) = true) →
 (Q (.tv [] (.int .i64) z2) [])) ∧
 (((decide ((List.getD x0 z2.toNat []) = x1)) = false) →
 (Need ((-9223372036854775808 ≤ (z2 + 1)) ∧ ((z2 + 1) ≤ 9223372036854775807)) ∧
 ((y0 (z2 + 1)) ∧
  Need ((y1 (z2 + 1)) < (y1 z2)))))))) ∧
 (((decide (z2 < (x0.length : Int))) = false) →
 (Q (.tv [] (.int .i64) (-(1 : Int))) []))))))))) : EvF PP orc 68 [.tv [] (.slice .str) x0, .tv [] .str x1] [] Q := vcF_ok (sg := sg) (Eq.mp (by kernel_rfl) h)
theorem vc69 (x0_0 : List ((List Int × ((List Int × (List Int × (Bool × Unit))) × Unit)))) (x0_1 : List ((List Int × (List Int × (Bool × Unit))))) (g0 : Nat) (l0 : List ((Int × (List qT2 × Unit)))) (x0_3 : List Int) (x0_4 : List ((List Int × (List qT2 × (List Int × (List Int × Unit)))))) (x1 : List Int) (Q : AV → Heap → Prop) (h :
(∃ y0 : (Int → (Int → (qT9 → Prop))),
 (∃ y1 : (Int → (Int → (qT9 → Nat))),
 (Need (l0.length = l0.length) ∧
 ((y0 (0 : Int) (g0 : Int) l0) ∧
 (∀ z2 z3 : Int,
 (∀ z4 : qT9,
 ((y0 z2 z3 z4) →
 ((((decide (z2 < (l0.length : Int))) = true) →
 (Need ((0 ≤ z2) ∧ (z2 < (l0.length : Int))) ∧
 (Need (z3.toNat = g0) ∧
 (Need ((0 + z2.toNat) < z4.length) ∧
 (Need (z3.toNat = g0) ∧
 (Need ((0 + z2.toNat) < z4.length) ∧
 (∃ y7 : Int,
 (Need (E 68 [(.tv [] (.slice .str) (List.getD z4 (0 + z2.toNat) ((0 : Int), ([], ()))).2.1), (.tv [] .str x1)] [] (.tv [] (.int .i64) y7) []) ∧
 ((((decide (0 ≤ y7)) = true) →
 (Need ((-9223372036854775808 ≤ (z2 + 1)) ∧ ((z2 + 1) ≤ 9223372036854775807)) ∧
 (Q (.tv [] (.int .i64) (z2 + 1)) (hq3 z3.toNat z4)))) ∧
 (((decide (0 ≤ y7)) = false) →
 (Need ((-9223372036854775808 ≤ (z2 + 1)) ∧ ((z2 + 1) ≤ 9223372036854775807)) ∧
 (Need (((x0_0, (x0_1, ((some ((0, 0), (g0, (0, l0.length)))), (x0_3, (x0_4, ()))))) = (x0_0, (x0_1, ((some ((0, 0), (g0, (0, l0.length)))), (x0_3, (x0_4, ())))))) ∧ (z4.length = z4.length)) ∧
 ((y0 (z2 + 1) (z3.toNat : Int) z4) ∧
  Need ((y1 (z2 + 1) (z3.toNat : Int) z4) < (y1 z2 z3 z4))))))))))))))) ∧
 (((decide (z2 < (l0.length : Int))) = false) →
 (Q (.tv [] (.int .i64) (0 : Int)) (hq3 z3.toNat z4)))))))))))) : EvF PP orc 69 [.tv [] qt5 (x0_0, (x0_1, ((some ((0, 0), g0, 0, l0.length)), (x0_3, (x0_4, ()))))), .tv [] .str x1] (hq15 g0 l0) Q := vcF_ok (sg := sg) (Eq.mp (by kernel_rfl) h)
theorem vc70 (x0_0 : List qT2) (x0_1 : List qT2) (x0_2 : List ((Int × (List (Int) × (Int × Unit))))) (x0_3 : List (Int)) (x0_4 : List (Int)) (x0_5 : List qT2) (x1 : List Int) (Q : AV → Heap → Prop) (h :
(∃ y0 : Int,
 (Need (E 68 [(.tv [] (.slice .str) x0_0), (.tv [] .str x1)] [] (.tv [] (.int .i64) y0) []) ∧
 ((((decide (0 ≤ y0)) = true) →
 (Q (.tv [] (.int .i64) y0) [])) ∧
 (((decide (0 ≤ y0)) = false) →
 (∃ y3 : Int,
 (Need (E 68 [(.tv [] (.slice .str) x0_1), (.tv [] .str x1)] [] (.tv [] (.int .i64) y3) []) ∧
 ((((decide (0 ≤ y3)) = true) →
 (Need ((-9223372036854775808 ≤ ((x0_0.length : Int) + y3)) ∧ (((x0_0.length : Int) + y3) ≤ 9223372036854775807)) ∧
 (Q (.tv [] (.int .i64) ((x0_0.length : Int) + y3)) []))) ∧
 (((decide (0 ≤ y3)) = false) →
 (Q (.tv [] (.int .i64) (-(1 : Int))) [])))))))))) : EvF PP orc 70 [.tv [] qt3 (x0_0, (x0_1, (x0_2, (x0_3, (x0_4, (x0_5, ())))))), .tv [] .str x1] [] Q := vcF_ok (sg := sg) (Eq.mp (by kernel_rfl) h)
theorem vc85 (x0 : List qT2) (Q : AV → Heap → Prop) (h :
(∃ y0 : (Int → Prop),
 (∃ y1 : (Int → Nat),
 ((y0 (0 : Int)) ∧
 (∀ z2 : Int,
 ((y0 z2) →
 ((((decide (z2 < (x0.length : Int))) = true) →
 (Need ((0 ≤ z2) ∧ (z2 < (x0.length : Int))) ∧
 (∃ y5 : Bool,
 (Need (E 82 [(.tv [] .str (List.getD x0 z2.toNat []))] [] (.tv [] .bool y5) []) ∧
 ((((!y5) = true) →
 (Q (.tv [] .bool false) [])) ∧
 (((!y5) = false) →
 (∃ y8 : (Int → Prop),
 (∃ y9 : (Int → Nat),
 ((y8 (0 : Int)) ∧
 (∀ z10 : Int,
 ((y8 z10) →
 ((((decide (z10 < z2)) = true) →
 (Need ((0 ≤ z10) ∧ (z10 < (x0.length : Int))) ∧
 (Need ((0 ≤ z2) ∧ (z2 < (x0.length : Int))) ∧
 ((((decide ((List.getD x0 z10.toNat []) = (List.getD x0 z2.toNat []))) = true) →
 (Q (.tv [] .bool false) [])) ∧
 (((decide ((List.getD x0 z10.toNat []) = (List.getD x0 z2.toNat []))) = false) →
 (Need ((-9223372036854775808 ≤ (z10 + 1)) ∧ ((z10 + 1) ≤ 9223372036854775807)) ∧
 ((y8 (z10 + 1)) ∧
   Need ((y9 (z10 + 1)) < (y9 z10))))))))) ∧
 (((decide (z10 < z2)) = false) →
 (Need ((-9223372036854775808 ≤ (z2 + 1)) ∧ ((z2 + 1) ≤ 9223372036854775807)) ∧
 ((y0 (z2 + 1)) ∧
  Need ((y1 (z2 + 1)) < (y1 z2))))))))))))))))) ∧
 (((decide (z2 < (x0.length : Int))) = false) →
 (Q (.tv [] .bool true) []))))))))) : EvF PP orc 85 [.tv [] (.slice .str) x0] [] Q := vcF_ok (sg := sg) (Eq.mp (by kernel_rfl) h)
end Go.Am.T
