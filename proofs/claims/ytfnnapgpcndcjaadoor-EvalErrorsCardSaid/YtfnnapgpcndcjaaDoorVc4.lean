/-
  A part of the proof of a law: see the text that states it.
-/
import Derived.Test.YtfnnapgpcndcjaaDoorHead
set_option linter.all false
namespace Go.Am.V
open Go
set_option maxRecDepth 100000
set_option maxHeartbeats 4000000
/-- (*strings.asciiSet).contains -/
theorem vc47 (x1 : Int) (o0 : List (Bool)) (Q : AV → Heap → Prop) (h :
(Need (((0 : Int) ≤ x1) ∧ (x1 < (256 : Int))) ∧
 (Need ((Int.toNat x1) < 256) ∧
 (Q (.tv [] .bool (List.getD o0 (Int.toNat x1) false)) [((0, 0), ⟨⟨(.arr 0 256 .bool), o0⟩, []⟩)])))) : EvF PP orc 47 [.op (0, 0) [], .tv [] (.int .u8) x1] [((0, 0), ⟨⟨(.arr 0 256 .bool), o0⟩, []⟩)] Q := vcF_ok (sg := sg) (Eq.mp (by kernel_rfl) h)
/-- strings.trimLeftASCII -/
theorem vc33 (x0 : List Int) (o0 : List (Bool)) (Q : AV → Heap → Prop) (h :
(∃ y0 : ((List Int) → ((List Bool) → Prop)),
 (∃ y1 : ((List Int) → ((List Bool) → Nat)),
 ((y0 x0 o0) ∧
 (∀ z2 : (List Int),
 (∀ z3 : (List Bool),
 ((y0 z2 z3) →
 ((((decide ((0 : Int) < ((List.length z2) : Int))) = true) →
  (Need (((0 : Int) ≤ (0 : Int)) ∧ ((0 : Int) < ((List.length z2) : Int))) ∧
  (∃ y6 : Bool,
  (∃ y7 : (List Bool),
  (Need (E 47 [(.op (0, 0) []), (.tv [] (.int .u8) (List.getD z2 0 (0 : Int)))] [((0, 0), ⟨⟨(.arr 0 256 .bool), z3⟩, []⟩)] (.tv [] .bool y6) [((0, 0), ⟨⟨(.arr 0 256 .bool), y7⟩, []⟩)]) ∧
  ((((!y6) = true) →
   (Q (.tv [] .str z2) [((0, 0), ⟨⟨(.arr 0 256 .bool), y7⟩, []⟩)])) ∧
  (((!y6) = false) →
  (Need (((0 : Int) ≤ (1 : Int)) ∧ (((1 : Int) ≤ ((List.length z2) : Int)) ∧ (((List.length z2) : Int) ≤ ((List.length z2) : Int)))) ∧
  ((y0 (cut z2 1 (Int.toNat ((List.length z2) : Int))) y7) ∧
  Need ((y1 (cut z2 1 (Int.toNat ((List.length z2) : Int))) y7) < (y1 z2 z3))))))))))) ∧
 (((decide ((0 : Int) < ((List.length z2) : Int))) = false) →
 (Q (.tv [] .str z2) [((0, 0), ⟨⟨(.arr 0 256 .bool), z3⟩, []⟩)])))))))))) : EvF PP orc 33 [.tv [] .str x0, .op (0, 0) []] [((0, 0), ⟨⟨(.arr 0 256 .bool), o0⟩, []⟩)] Q := vcF_ok (sg := sg) (Eq.mp (by kernel_rfl) h)
/-- strings.trimRightASCII -/
theorem vc34 (x0 : List Int) (o0 : List (Bool)) (Q : AV → Heap → Prop) (h :
(∃ y0 : ((List Int) → ((List Bool) → Prop)),
 (∃ y1 : ((List Int) → ((List Bool) → Nat)),
 ((y0 x0 o0) ∧
 (∀ z2 : (List Int),
 (∀ z3 : (List Bool),
 ((y0 z2 z3) →
 ((((decide ((0 : Int) < ((List.length z2) : Int))) = true) →
  (Need (((-9223372036854775808 : Int) ≤ (((List.length z2) : Int) - (1 : Int))) ∧ ((((List.length z2) : Int) - (1 : Int)) ≤ (9223372036854775807 : Int))) ∧
  (Need (((0 : Int) ≤ (((List.length z2) : Int) - (1 : Int))) ∧ ((((List.length z2) : Int) - (1 : Int)) < ((List.length z2) : Int))) ∧
  (∃ y6 : Bool,
  (∃ y7 : (List Bool),
  (Need (E 47 [(.op (0, 0) []), (.tv [] (.int .u8) (List.getD z2 (Int.toNat (((List.length z2) : Int) - (1 : Int))) (0 : Int)))] [((0, 0), ⟨⟨(.arr 0 256 .bool), z3⟩, []⟩)] (.tv [] .bool y6) [((0, 0), ⟨⟨(.arr 0 256 .bool), y7⟩, []⟩)]) ∧
  ((((!y6) = true) →
   (Q (.tv [] .str z2) [((0, 0), ⟨⟨(.arr 0 256 .bool), y7⟩, []⟩)])) ∧
  (((!y6) = false) →
  (Need (((-9223372036854775808 : Int) ≤ (((List.length z2) : Int) - (1 : Int))) ∧ ((((List.length z2) : Int) - (1 : Int)) ≤ (9223372036854775807 : Int))) ∧
  (Need (((0 : Int) ≤ (0 : Int)) ∧ (((0 : Int) ≤ (((List.length z2) : Int) - (1 : Int))) ∧ ((((List.length z2) : Int) - (1 : Int)) ≤ ((List.length z2) : Int)))) ∧
  ((y0 (cut z2 0 (Int.toNat (((List.length z2) : Int) - (1 : Int)))) y7) ∧
  Need ((y1 (cut z2 0 (Int.toNat (((List.length z2) : Int) - (1 : Int)))) y7) < (y1 z2 z3))))))))))))) ∧
 (((decide ((0 : Int) < ((List.length z2) : Int))) = false) →
 (Q (.tv [] .str z2) [((0, 0), ⟨⟨(.arr 0 256 .bool), z3⟩, []⟩)])))))))))) : EvF PP orc 34 [.tv [] .str x0, .op (0, 0) []] [((0, 0), ⟨⟨(.arr 0 256 .bool), o0⟩, []⟩)] Q := vcF_ok (sg := sg) (Eq.mp (by kernel_rfl) h)
/-- strings.makeASCIISet -/
theorem vc32 (x0 : List Int) (Q : AV → Heap → Prop) (h :
(∃ y0 : (Int → ((List Bool) → Prop)),
 (∃ y1 : (Int → ((List Bool) → Nat)),
 ((y0 (0 : Int) (List.replicate 256 false)) ∧
 (∀ z2 : Int,
 (∀ z3 : (List Bool),
 ((y0 z2 z3) →
 ((((decide (z2 < ((List.length x0) : Int))) = true) →
  (Need (((0 : Int) ≤ z2) ∧ (z2 < ((List.length x0) : Int))) ∧
  ((((decide ((128 : Int) ≤ (List.getD x0 (Int.toNat z2) (0 : Int)))) = true) →
   (Q (.tup [(.tv [] (.arr 0 256 .bool) z3), (.tv [] .bool false)]) [])) ∧
  (((decide ((128 : Int) ≤ (List.getD x0 (Int.toNat z2) (0 : Int)))) = false) →
  (Need (((0 : Int) ≤ (List.getD x0 (Int.toNat z2) (0 : Int))) ∧ ((List.getD x0 (Int.toNat z2) (0 : Int)) < (256 : Int))) ∧
  (Need ((Int.toNat (List.getD x0 (Int.toNat z2) (0 : Int))) < 256) ∧
  (Need (((-9223372036854775808 : Int) ≤ (z2 + (1 : Int))) ∧ ((z2 + (1 : Int)) ≤ (9223372036854775807 : Int))) ∧
  ((y0 (z2 + (1 : Int)) (List.set z3 (Int.toNat (List.getD x0 (Int.toNat z2) (0 : Int))) true)) ∧
  Need ((y1 (z2 + (1 : Int)) (List.set z3 (Int.toNat (List.getD x0 (Int.toNat z2) (0 : Int))) true)) < (y1 z2 z3)))))))))) ∧
 (((decide (z2 < ((List.length x0) : Int))) = false) →
 (Q (.tup [(.tv [] (.arr 0 256 .bool) z3), (.tv [] .bool true)]) [])))))))))) : EvF PP orc 32 [.tv [] .str x0] [] Q := vcF_ok (sg := sg) (Eq.mp (by kernel_rfl) h)
/-- strings.Trim -/
theorem vc17 (x0 : List Int) (x1 : List Int) (Q : AV → Heap → Prop) (h :
((((decide (x0 = [])) = true) →
  (Q (.tv [] .str x0) [])) ∧
 (((decide (x0 = [])) = false) →
 ((((decide (x1 = [])) = true) →
  (Q (.tv [] .str x0) [])) ∧
 (((decide (x1 = [])) = false) →
 ((((decide (((List.length x1) : Int) = (1 : Int))) = true) →
  (Need (((0 : Int) ≤ (0 : Int)) ∧ ((0 : Int) < ((List.length x1) : Int))) ∧
  ((((decide ((List.getD x1 0 (0 : Int)) < (128 : Int))) = true) →
   (Need (((0 : Int) ≤ (0 : Int)) ∧ ((0 : Int) < ((List.length x1) : Int))) ∧
   (∃ y6 : (List Int),
   (Need (E 31 [(.tv [] .str x0), (.tv [] (.int .u8) (List.getD x1 0 (0 : Int)))] [] (.tv [] .str y6) []) ∧
   (Need (((0 : Int) ≤ (0 : Int)) ∧ ((0 : Int) < ((List.length x1) : Int))) ∧
   (∃ y7 : (List Int),
   (Need (E 30 [(.tv [] .str y6), (.tv [] (.int .u8) (List.getD x1 0 (0 : Int)))] [] (.tv [] .str y7) []) ∧
   (Q (.tv [] .str y7) [])))))))) ∧
  (((decide ((List.getD x1 0 (0 : Int)) < (128 : Int))) = false) →
  (∃ y9 : (List Bool),
  (∃ y10 : Bool,
  (Need (E 32 [(.tv [] .str x1)] [] (.tup [(.tv [] (.arr 0 256 .bool) y9), (.tv [] .bool y10)]) []) ∧
  (((y10 = true) →
   (∃ y12 : (List Int),
   (∃ y13 : (List Bool),
   (Need (E 34 [(.tv [] .str x0), (.op (0, 0) [])] [((0, 0), ⟨⟨(.arr 0 256 .bool), y9⟩, []⟩)] (.tv [] .str y12) [((0, 0), ⟨⟨(.arr 0 256 .bool), y13⟩, []⟩)]) ∧
   (∃ y14 : (List Int),
   (∃ y15 : (List Bool),
   (Need (E 33 [(.tv [] .str y12), (.op (0, 0) [])] [((0, 0), ⟨⟨(.arr 0 256 .bool), y13⟩, []⟩)] (.tv [] .str y14) [((0, 0), ⟨⟨(.arr 0 256 .bool), y15⟩, []⟩)]) ∧
   (Q (.tv [] .str y14) [])))))))) ∧
  ((y10 = false) →
  False))))))))) ∧
 (((decide (((List.length x1) : Int) = (1 : Int))) = false) →
 (∃ y18 : (List Bool),
 (∃ y19 : Bool,
 (Need (E 32 [(.tv [] .str x1)] [] (.tup [(.tv [] (.arr 0 256 .bool) y18), (.tv [] .bool y19)]) []) ∧
 (((y19 = true) →
  (∃ y21 : (List Int),
  (∃ y22 : (List Bool),
  (Need (E 34 [(.tv [] .str x0), (.op (0, 0) [])] [((0, 0), ⟨⟨(.arr 0 256 .bool), y18⟩, []⟩)] (.tv [] .str y21) [((0, 0), ⟨⟨(.arr 0 256 .bool), y22⟩, []⟩)]) ∧
  (∃ y23 : (List Int),
  (∃ y24 : (List Bool),
  (Need (E 33 [(.tv [] .str y21), (.op (0, 0) [])] [((0, 0), ⟨⟨(.arr 0 256 .bool), y22⟩, []⟩)] (.tv [] .str y23) [((0, 0), ⟨⟨(.arr 0 256 .bool), y24⟩, []⟩)]) ∧
  (Q (.tv [] .str y23) [])))))))) ∧
 ((y19 = false) →
 False)))))))))))) : EvF PP orc 17 [.tv [] .str x0, .tv [] .str x1] [] Q := vcF_ok (sg := sg) (Eq.mp (by kernel_rfl) h)
/-- tronage/eval.Leaf -/
theorem vc8 (x0 : List Int) (Q : AV → Heap → Prop) (h :
((((decide (x0 = [])) = true) →
  (∃ y1 : Int,
  (∃ y2 : Int,
  (Need (E 18 [(.tv [] (.int .i64) ((List.length x0) : Int))] [] (.tv [] (.pair (.int .i64) (.pair (.int .i64) .unit)) (y1, (y2, ()))) []) ∧
  (Q (.tv [] (.pair (.int .i64) (.pair (.int .i64) .unit)) (y1, (y2, ()))) []))))) ∧
 (((decide (x0 = [])) = false) →
 (∃ y4 : (List Int),
 (Need (E 17 [(.tv [] .str x0), (.tv [] .str (List.map (fun v5 => (((BitVec.toNat (UInt8.toBitVec v5)) : Nat) : Int)) [(48 : UInt8), (49 : UInt8), (50 : UInt8), (51 : UInt8), (52 : UInt8), (53 : UInt8), (54 : UInt8), (55 : UInt8), (56 : UInt8), (57 : UInt8)]))] [] (.tv [] .str y4) []) ∧
 ((((!(decide (y4 = []))) = true) →
  (∃ y7 : Int,
  (∃ y8 : Int,
  (Need (E 18 [(.tv [] (.int .i64) ((List.length x0) : Int))] [] (.tv [] (.pair (.int .i64) (.pair (.int .i64) .unit)) (y7, (y8, ()))) []) ∧
  (Q (.tv [] (.pair (.int .i64) (.pair (.int .i64) .unit)) (y7, (y8, ()))) []))))) ∧
 (((!(decide (y4 = []))) = false) →
 (∃ y10 : (Int → (Int → Prop)),
 (∃ y11 : (Int → (Int → Nat)),
 ((y10 (0 : Int) (0 : Int)) ∧
 (∀ z12 : Int,
 (∀ z13 : Int,
 ((y10 z12 z13) →
 ((((decide (z13 < ((List.length x0) : Int))) = true) →
  (Need (((0 : Int) ≤ z13) ∧ (z13 < ((List.length x0) : Int))) ∧
  (Need (((0 : Int) ≤ ((List.getD x0 (Int.toNat z13) (0 : Int)) - (48 : Int))) ∧ (((List.getD x0 (Int.toNat z13) (0 : Int)) - (48 : Int)) ≤ (255 : Int))) ∧
  (Need (((-9223372036854775808 : Int) ≤ ((List.getD x0 (Int.toNat z13) (0 : Int)) - (48 : Int))) ∧ (((List.getD x0 (Int.toNat z13) (0 : Int)) - (48 : Int)) ≤ (9223372036854775807 : Int))) ∧
  (Need (((-9223372036854775808 : Int) ≤ (z13 + (1 : Int))) ∧ ((z13 + (1 : Int)) ≤ (9223372036854775807 : Int))) ∧
  (Need (((0 : Int), ((0 : Int), ())) = ((0 : Int), ((0 : Int), ()))) ∧
  ((y10 (IntKind.wrap .i64 ((IntKind.wrap .i64 (z12 * (10 : Int))) + ((List.getD x0 (Int.toNat z13) (0 : Int)) - (48 : Int)))) (z13 + (1 : Int))) ∧
  Need ((y11 (IntKind.wrap .i64 ((IntKind.wrap .i64 (z12 * (10 : Int))) + ((List.getD x0 (Int.toNat z13) (0 : Int)) - (48 : Int)))) (z13 + (1 : Int))) < (y11 z12 z13))))))))) ∧
 (((decide (z13 < ((List.length x0) : Int))) = false) →
 (∃ y17 : Int,
 (∃ y18 : Int,
 (Need (E 18 [(.tv [] (.int .i64) z12)] [] (.tv [] (.pair (.int .i64) (.pair (.int .i64) .unit)) (y17, (y18, ()))) []) ∧
 (Q (.tv [] (.pair (.int .i64) (.pair (.int .i64) .unit)) (y17, (y18, ()))) []))))))))))))))))))) : EvF PP orc 8 [.tv [] .str x0] [] Q := vcF_ok (sg := sg) (Eq.mp (by kernel_rfl) h)
/-- tronage/tronageref22.Leaf -/
theorem vc9 (x0 : List Int) (Q : AV → Heap → Prop) (h :
(∃ y0 : (Int → (Int → (Int → (Int → Prop)))),
 (∃ y1 : (Int → (Int → (Int → (Int → Nat)))),
 ((y0 (0 : Int) (0 : Int) (0 : Int) (0 : Int)) ∧
 (∀ z2 : Int,
 (∀ z3 : Int,
 (∀ z4 : Int,
 (∀ z5 : Int,
 ((y0 z2 z3 z4 z5) →
 ((((decide (z3 < ((List.length x0) : Int))) = true) →
  (Need (((0 : Int) ≤ z3) ∧ (z3 < ((List.length x0) : Int))) ∧
  ((((decide ((List.getD x0 (Int.toNat z3) (0 : Int)) < (48 : Int))) = true) →
   (Q (.tv [] (.pair (.int .i64) (.pair (.int .i64) .unit)) ((1 : Int), (((List.length x0) : Int), ()))) [])) ∧
  (((decide ((List.getD x0 (Int.toNat z3) (0 : Int)) < (48 : Int))) = false) →
  (Need (((0 : Int) ≤ z3) ∧ (z3 < ((List.length x0) : Int))) ∧
  ((((decide ((57 : Int) < (List.getD x0 (Int.toNat z3) (0 : Int)))) = true) →
   (Q (.tv [] (.pair (.int .i64) (.pair (.int .i64) .unit)) ((1 : Int), (((List.length x0) : Int), ()))) [])) ∧
  (((decide ((57 : Int) < (List.getD x0 (Int.toNat z3) (0 : Int)))) = false) →
  (Need (((0 : Int) ≤ z3) ∧ (z3 < ((List.length x0) : Int))) ∧
  (Need (((-9223372036854775808 : Int) ≤ (z3 + (1 : Int))) ∧ ((z3 + (1 : Int)) ≤ (9223372036854775807 : Int))) ∧
  ((y0 (IntKind.wrap .u64 ((IntKind.wrap .u64 (z2 * (10 : Int))) + (IntKind.wrap .u64 (IntKind.wrap .u8 ((List.getD x0 (Int.toNat z3) (0 : Int)) - (48 : Int)))))) (z3 + (1 : Int)) z4 z5) ∧
  Need ((y1 (IntKind.wrap .u64 ((IntKind.wrap .u64 (z2 * (10 : Int))) + (IntKind.wrap .u64 (IntKind.wrap .u8 ((List.getD x0 (Int.toNat z3) (0 : Int)) - (48 : Int)))))) (z3 + (1 : Int)) z4 z5) < (y1 z2 z3 z4 z5)))))))))))) ∧
 (((decide (z3 < ((List.length x0) : Int))) = false) →
 (Q (.tv [] (.pair (.int .i64) (.pair (.int .i64) .unit)) ((1 : Int), ((IntKind.wrap .i64 z2), ()))) [])))))))))))) : EvF PP orc 9 [.tv [] .str x0] [] Q := vcF_ok (sg := sg) (Eq.mp (by kernel_rfl) h)
end Go.Am.V
