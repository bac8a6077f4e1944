/-
  A part of the proof of a law: see the text that states it.
-/
import Derived.Test.YtgfkdbplahpknaaHead
set_option linter.all false
namespace Go.Am.T
open Go
set_option maxRecDepth 100000
set_option maxHeartbeats 4000000
theorem vc33 (x0 : List ((Int × (Int × (Int × Unit))))) (x1 : List ((Int × (Int × (Int × Unit))))) (Q : AV → Heap → Prop) (h :
((((decide (((List.length x0) : Int) ≠ ((List.length x1) : Int))) = true) →
  (Q (.tv [] .bool false) [])) ∧
 (((decide (((List.length x0) : Int) ≠ ((List.length x1) : Int))) = false) →
 (∃ y2 : (Int → Prop),
 (∃ y3 : (Int → Nat),
 ((y2 (0 : Int)) ∧
 (∀ z4 : Int,
 ((y2 z4) →
 ((((decide (z4 < ((List.length x0) : Int))) = true) →
  (Need (((0 : Int) ≤ z4) ∧ (z4 < ((List.length x0) : Int))) ∧
  (Need (((0 : Int) ≤ z4) ∧ (z4 < ((List.length x1) : Int))) ∧
  ((((!((decide ((List.getD x0 (Int.toNat z4) ((0 : Int), ((0 : Int), ((0 : Int), ())))).1 = (List.getD x1 (Int.toNat z4) ((0 : Int), ((0 : Int), ((0 : Int), ())))).1)) && ((decide ((List.getD x0 (Int.toNat z4) ((0 : Int), ((0 : Int), ((0 : Int), ())))).2.1 = (List.getD x1 (Int.toNat z4) ((0 : Int), ((0 : Int), ((0 : Int), ())))).2.1)) && ((decide ((List.getD x0 (Int.toNat z4) ((0 : Int), ((0 : Int), ((0 : Int), ())))).2.2.1 = (List.getD x1 (Int.toNat z4) ((0 : Int), ((0 : Int), ((0 : Int), ())))).2.2.1)) && true)))) = true) →
   (Q (.tv [] .bool false) [])) ∧
  (((!((decide ((List.getD x0 (Int.toNat z4) ((0 : Int), ((0 : Int), ((0 : Int), ())))).1 = (List.getD x1 (Int.toNat z4) ((0 : Int), ((0 : Int), ((0 : Int), ())))).1)) && ((decide ((List.getD x0 (Int.toNat z4) ((0 : Int), ((0 : Int), ((0 : Int), ())))).2.1 = (List.getD x1 (Int.toNat z4) ((0 : Int), ((0 : Int), ((0 : Int), ())))).2.1)) && ((decide ((List.getD x0 (Int.toNat z4) ((0 : Int), ((0 : Int), ((0 : Int), ())))).2.2.1 = (List.getD x1 (Int.toNat z4) ((0 : Int), ((0 : Int), ((0 : Int), ())))).2.2.1)) && true)))) = false) →
  (Need (((-9223372036854775808 : Int) ≤ (z4 + (1 : Int))) ∧ ((z4 + (1 : Int)) ≤ (9223372036854775807 : Int))) ∧
  ((y2 (z4 + (1 : Int))) ∧
  Need ((y3 (z4 + (1 : Int))) < (y3 z4))))))))) ∧
 (((decide (z4 < ((List.length x0) : Int))) = false) →
 (Q (.tv [] .bool true) []))))))))))) : EvF PP orc 33 [.tv [] (.slice qt1) x0, .tv [] (.slice qt1) x1] [] Q := vcF_ok (sg := sg) (Eq.mp (by kernel_rfl) h)
end Go.Am.T
