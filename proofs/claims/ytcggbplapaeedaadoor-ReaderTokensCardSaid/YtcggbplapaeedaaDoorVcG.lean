/-
  A part of the proof of a law: see the text that states it.
-/
import Derived.Test.YtcggbplapaeedaaDoorHead
set_option linter.all false
namespace Go.Am.R
open Go
set_option maxRecDepth 100000
set_option maxHeartbeats 4000000
theorem vc31 (x0 : List qT3) (x1 : List qT3) (Q : AV → Heap → Prop) (h :
((((decide ((x0.length : Int) ≠ (x1.length : Int))) = true) →
 (Q (.tv [] .bool false) [])) ∧
 (((decide ((x0.length : Int) ≠ (x1.length : Int))) = false) →
 (∃ y2 : (Int → Prop),
 (∃ y3 : (Int → Nat),
 ((y2 (0 : Int)) ∧
 (∀ z4 : Int,
 ((y2 z4) →
 ((((decide (z4 < (x0.length : Int))) = true) →
 (Need ((0 ≤ z4) ∧ (z4 < (x0.length : Int))) ∧
 (Need ((0 ≤ z4) ∧ (z4 < (x1.length : Int))) ∧
 ((((!(decide ((List.getD x0 z4.toNat []) = (List.getD x1 z4.toNat [])))) = true) →
 (Q (.tv [] .bool false) [])) ∧
 (((!(decide ((List.getD x0 z4.toNat []) = (List.getD x1 z4.toNat [])))) = false) →
 (Need ((-9223372036854775808 ≤ (z4 + 1)) ∧ ((z4 + 1) ≤ 9223372036854775807)) ∧
 ((y2 (z4 + 1)) ∧
  Need ((y3 (z4 + 1)) < (y3 z4))))))))) ∧
 (((decide (z4 < (x0.length : Int))) = false) →
 (Q (.tv [] .bool true) []))))))))))) : EvF PP orc 31 [.tv [] (.slice .str) x0, .tv [] (.slice .str) x1] [] Q := vc_of (by kernel_rfl) h
end Go.Am.R
