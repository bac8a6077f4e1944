/-
  A part of the proof of a law: see the text that states it.
-/
import Derived.Test.YtpbabncglokikaaDoorHead
set_option linter.all false
namespace Go.Am.L
open Go
set_option maxRecDepth 100000
set_option maxHeartbeats 4000000
/-- tronage/lexer.letter -/
theorem vc27 (x0 : Int) (Q : AV → Heap → Prop) (h :
((((decide (x0 = (95 : Int))) = true) →
  (Q (.tv [] .bool true) [])) ∧
 (((decide (x0 = (95 : Int))) = false) →
 ((((decide ((97 : Int) ≤ (IntKind.wrap .u8 (((BitVec.toNat ((BitVec.ofInt 8 x0) ||| (BitVec.ofInt 8 (32 : Int)))) : Nat) : Int)))) = true) →
  (Q (.tv [] .bool (decide ((IntKind.wrap .u8 (((BitVec.toNat ((BitVec.ofInt 8 x0) ||| (BitVec.ofInt 8 (32 : Int)))) : Nat) : Int)) ≤ (122 : Int)))) [])) ∧
 (((decide ((97 : Int) ≤ (IntKind.wrap .u8 (((BitVec.toNat ((BitVec.ofInt 8 x0) ||| (BitVec.ofInt 8 (32 : Int)))) : Nat) : Int)))) = false) →
 (Q (.tv [] .bool false) [])))))) : EvF PP orc 27 [.tv [] (.int .u8) x0] [] Q := vcF_ok (sg := sg) (Eq.mp (by kernel_rfl) h)
/-- tronage/lexer.part -/
theorem vc29 (x0 : Int) (Q : AV → Heap → Prop) (h :
(∃ y0 : Bool,
 (Need (E 27 [(.tv [] (.int .u8) x0)] [] (.tv [] .bool y0) []) ∧
 (((y0 = true) →
  (Q (.tv [] .bool true) [])) ∧
 ((y0 = false) →
 ((((decide ((48 : Int) ≤ x0)) = true) →
  (Q (.tv [] .bool (decide (x0 ≤ (57 : Int)))) [])) ∧
 (((decide ((48 : Int) ≤ x0)) = false) →
 (Q (.tv [] .bool false) [])))))))) : EvF PP orc 29 [.tv [] (.int .u8) x0] [] Q := vcF_ok (sg := sg) (Eq.mp (by kernel_rfl) h)
/-- tronage/lexer.word$1 -/
theorem vc49 (x0 : Int) (Q : AV → Heap → Prop) (h :
((((decide ((97 : Int) ≤ x0)) = true) →
  (Q (.tv [] .bool (decide (x0 ≤ (122 : Int)))) [])) ∧
 (((decide ((97 : Int) ≤ x0)) = false) →
 (Q (.tv [] .bool false) [])))) : EvF PP orc 49 [.tv [] (.int .u8) x0] [] Q := vcF_ok (sg := sg) (Eq.mp (by kernel_rfl) h)
/-- tronage/lexer.run -/
theorem vc28 (x0 : List Int) (x1 : Int) (Q : AV → Heap → Prop) (h :
(∃ y0 : (Int → Prop),
 (∃ y1 : (Int → Nat),
 ((y0 (0 : Int)) ∧
 (∀ z2 : Int,
 ((y0 z2) →
 (Need (((-9223372036854775808 : Int) ≤ (x1 + z2)) ∧ ((x1 + z2) ≤ (9223372036854775807 : Int))) ∧
 ((((decide ((x1 + z2) < ((List.length x0) : Int))) = true) →
  (Need (((-9223372036854775808 : Int) ≤ (x1 + z2)) ∧ ((x1 + z2) ≤ (9223372036854775807 : Int))) ∧
  (Need (((0 : Int) ≤ (x1 + z2)) ∧ ((x1 + z2) < ((List.length x0) : Int))) ∧
  (∃ y5 : Bool,
  (Need (E (29 : FuncId) [(.tv [] (.int .u8) (List.getD x0 (Int.toNat (x1 + z2)) (0 : Int)))] [] (.tv [] .bool y5) []) ∧
  (((y5 = true) →
   (Need (((-9223372036854775808 : Int) ≤ (z2 + (1 : Int))) ∧ ((z2 + (1 : Int)) ≤ (9223372036854775807 : Int))) ∧
   ((y0 (z2 + (1 : Int))) ∧
   Need ((y1 (z2 + (1 : Int))) < (y1 z2))))) ∧
  ((y5 = false) →
  (Q (.tv [] (.int .i64) z2) [])))))))) ∧
 (((decide ((x1 + z2) < ((List.length x0) : Int))) = false) →
 (Q (.tv [] (.int .i64) z2) [])))))))))) : EvF PP orc 28 [.tv [] .str x0, .tv [] (.int .i64) x1, .fn 29 [] []] [] Q := vcF_ok (sg := sg) (Eq.mp (by kernel_rfl) h)
/-- tronage/lexer.run -/
theorem vc28002 (x0 : List Int) (x1 : Int) (Q : AV → Heap → Prop) (h :
(∃ y0 : (Int → Prop),
 (∃ y1 : (Int → Nat),
 ((y0 (0 : Int)) ∧
 (∀ z2 : Int,
 ((y0 z2) →
 (Need (((-9223372036854775808 : Int) ≤ (x1 + z2)) ∧ ((x1 + z2) ≤ (9223372036854775807 : Int))) ∧
 ((((decide ((x1 + z2) < ((List.length x0) : Int))) = true) →
  (Need (((-9223372036854775808 : Int) ≤ (x1 + z2)) ∧ ((x1 + z2) ≤ (9223372036854775807 : Int))) ∧
  (Need (((0 : Int) ≤ (x1 + z2)) ∧ ((x1 + z2) < ((List.length x0) : Int))) ∧
  (∃ y5 : Bool,
  (Need (E (49 : FuncId) [(.tv [] (.int .u8) (List.getD x0 (Int.toNat (x1 + z2)) (0 : Int)))] [] (.tv [] .bool y5) []) ∧
  (((y5 = true) →
   (Need (((-9223372036854775808 : Int) ≤ (z2 + (1 : Int))) ∧ ((z2 + (1 : Int)) ≤ (9223372036854775807 : Int))) ∧
   ((y0 (z2 + (1 : Int))) ∧
   Need ((y1 (z2 + (1 : Int))) < (y1 z2))))) ∧
  ((y5 = false) →
  (Q (.tv [] (.int .i64) z2) [])))))))) ∧
 (((decide ((x1 + z2) < ((List.length x0) : Int))) = false) →
 (Q (.tv [] (.int .i64) z2) [])))))))))) : EvF PP orc 28 [.tv [] .str x0, .tv [] (.int .i64) x1, .fn 49 [] []] [] Q := vcF_ok (sg := sg) (Eq.mp (by kernel_rfl) h)
/-- tronage/lexer.sign -/
theorem vc38 (x0 : Int) (Q : AV → Heap → Prop) (h :
((((decide (x0 = (43 : Int))) = true) →
  (Q (.tv [] (.int .i64) (5 : Int)) [])) ∧
 (((decide (x0 = (43 : Int))) = false) →
 ((((decide (x0 = (58 : Int))) = true) →
  (Q (.tv [] (.int .i64) (6 : Int)) [])) ∧
 (((decide (x0 = (58 : Int))) = false) →
 ((((decide (x0 = (124 : Int))) = true) →
  (Q (.tv [] (.int .i64) (7 : Int)) [])) ∧
 (((decide (x0 = (124 : Int))) = false) →
 (Q (.tv [] (.int .i64) (8 : Int)) [])))))))) : EvF PP orc 38 [.tv [] (.int .u8) x0] [] Q := vcF_ok (sg := sg) (Eq.mp (by kernel_rfl) h)
/-- tronage/lexer.escape -/
theorem vc51 (x0 : List Int) (x1 : Int) (x2 : List Int) (Q : AV → Heap → Prop) (h :
(Need (((-9223372036854775808 : Int) ≤ (x1 + (1 : Int))) ∧ ((x1 + (1 : Int)) ≤ (9223372036854775807 : Int))) ∧
 ((((decide ((x1 + (1 : Int)) < ((List.length x0) : Int))) = true) →
  (Need (((-9223372036854775808 : Int) ≤ (x1 + (1 : Int))) ∧ ((x1 + (1 : Int)) ≤ (9223372036854775807 : Int))) ∧
  (Need (((0 : Int) ≤ (x1 + (1 : Int))) ∧ ((x1 + (1 : Int)) < ((List.length x0) : Int))) ∧
  (∃ y1 : Int,
  (Need (E 33 [(.tv [] .str x2), (.tv [] (.int .u8) (List.getD x0 (Int.toNat (x1 + (1 : Int))) (0 : Int)))] [] (.tv [] (.int .i64) y1) []) ∧
  ((((decide ((0 : Int) ≤ y1)) = true) →
   (∃ y3 : (Int → Prop),
   (∃ y4 : (Int → Nat),
   ((y3 (0 : Int)) ∧
   (∀ z5 : Int,
   ((y3 z5) →
   ((((decide (z5 < (6 : Int))) = true) →
    (Need (((0 : Int) ≤ z5) ∧ (z5 < (6 : Int))) ∧
    (Need (((0 : Int) ≤ (0 : Int)) ∧ ((0 : Int) < (2 : Int))) ∧
    (Need (0 < 2) ∧
    (Need (((-9223372036854775808 : Int) ≤ (x1 + (1 : Int))) ∧ ((x1 + (1 : Int)) ≤ (9223372036854775807 : Int))) ∧
    (Need (((0 : Int) ≤ (x1 + (1 : Int))) ∧ ((x1 + (1 : Int)) < ((List.length x0) : Int))) ∧
    ((((decide ((List.getD (List.getD L.escapesL (Int.toNat z5) [(0 : Int), (0 : Int)]) 0 (0 : Int)) = (List.getD x0 (Int.toNat (x1 + (1 : Int))) (0 : Int)))) = true) →
     (Need (((0 : Int) ≤ (1 : Int)) ∧ ((1 : Int) < (2 : Int))) ∧
     (Need (1 < 2) ∧
     (Q (.tup [(.tv [] (.int .u8) (List.getD (List.getD L.escapesL (Int.toNat z5) [(0 : Int), (0 : Int)]) 1 (0 : Int))), (.tv [] .ref (Option.none ))]) [])))) ∧
    (((decide ((List.getD (List.getD L.escapesL (Int.toNat z5) [(0 : Int), (0 : Int)]) 0 (0 : Int)) = (List.getD x0 (Int.toNat (x1 + (1 : Int))) (0 : Int)))) = false) →
    (Need (((-9223372036854775808 : Int) ≤ (z5 + (1 : Int))) ∧ ((z5 + (1 : Int)) ≤ (9223372036854775807 : Int))) ∧
    ((y3 (z5 + (1 : Int))) ∧
    Need ((y4 (z5 + (1 : Int))) < (y4 z5)))))))))))) ∧
   (((decide (z5 < (6 : Int))) = false) →
   (Q (.tup [(.tv [] (.int .u8) (0 : Int)), (.op (1, 0) [])]) [((1, 0), ⟨⟨(.pair (.int .i64) (.pair (.int .i64) .unit)), ((10 : Int), (x1, ()))⟩, []⟩)]))))))))) ∧
  (((decide ((0 : Int) ≤ y1)) = false) →
  (Q (.tup [(.tv [] (.int .u8) (0 : Int)), (.op (1, 0) [])]) [((1, 0), ⟨⟨(.pair (.int .i64) (.pair (.int .i64) .unit)), ((10 : Int), (x1, ()))⟩, []⟩)])))))))) ∧
 (((decide ((x1 + (1 : Int)) < ((List.length x0) : Int))) = false) →
 (Q (.tup [(.tv [] (.int .u8) (0 : Int)), (.op (1, 0) [])]) [((1, 0), ⟨⟨(.pair (.int .i64) (.pair (.int .i64) .unit)), ((10 : Int), (x1, ()))⟩, []⟩)]))))) : EvF PP orc 51 [.tv [] .str x0, .tv [] (.int .i64) x1, .tv [] .str x2] [] Q := vcF_ok (sg := sg) (Eq.mp (by kernel_rfl) h)
/-- tronage/lexer.one -/
theorem vc53 (x0 : List Int) (x1 : Int) (Q : AV → Heap → Prop) (h :
(Need (((0 : Int) ≤ x1) ∧ (x1 < ((List.length x0) : Int))) ∧
 ((((decide ((List.getD x0 (Int.toNat x1) (0 : Int)) ≠ (92 : Int))) = true) →
  (Need (((0 : Int) ≤ x1) ∧ (x1 < ((List.length x0) : Int))) ∧
  (Need (((-9223372036854775808 : Int) ≤ (x1 + (1 : Int))) ∧ ((x1 + (1 : Int)) ≤ (9223372036854775807 : Int))) ∧
  (Q (.tup [(.tv [] (.int .u8) (List.getD x0 (Int.toNat x1) (0 : Int))), (.tv [] (.int .i64) (x1 + (1 : Int))), (.tv [] .ref (Option.none ))]) [])))) ∧
 (((decide ((List.getD x0 (Int.toNat x1) (0 : Int)) ≠ (92 : Int))) = false) →
 ((∃ y2 : Int,
  (∃ y3 : Int,
  (∃ y4 : Int,
  (Need (E 51 [(.tv [] .str x0), (.tv [] (.int .i64) x1), (.tv [] .str (List.map (fun v5 => (((BitVec.toNat (UInt8.toBitVec v5)) : Nat) : Int)) [(92 : UInt8), (93 : UInt8), (45 : UInt8), (110 : UInt8), (116 : UInt8)]))] [] (.tup [(.tv [] (.int .u8) y2), (.op (1, 0) [])]) [((1, 0), ⟨⟨(.pair (.int .i64) (.pair (.int .i64) .unit)), (y3, (y4, ()))⟩, []⟩)]) ∧
  (Need (((-9223372036854775808 : Int) ≤ (x1 + (2 : Int))) ∧ ((x1 + (2 : Int)) ≤ (9223372036854775807 : Int))) ∧
  (Q (.tup [(.tv [] (.int .u8) y2), (.tv [] (.int .i64) (x1 + (2 : Int))), (.op (1, 0) [])]) [((1, 0), ⟨⟨(.pair (.int .i64) (.pair (.int .i64) .unit)), (y3, (y4, ()))⟩, []⟩)])))))) ∨
 (∃ y6 : Int,
 (Need (E 51 [(.tv [] .str x0), (.tv [] (.int .i64) x1), (.tv [] .str (List.map (fun v7 => (((BitVec.toNat (UInt8.toBitVec v7)) : Nat) : Int)) [(92 : UInt8), (93 : UInt8), (45 : UInt8), (110 : UInt8), (116 : UInt8)]))] [] (.tup [(.tv [] (.int .u8) y6), (.tv [] .ref (Option.none ))]) []) ∧
 (Need (((-9223372036854775808 : Int) ≤ (x1 + (2 : Int))) ∧ ((x1 + (2 : Int)) ≤ (9223372036854775807 : Int))) ∧
 (Q (.tup [(.tv [] (.int .u8) y6), (.tv [] (.int .i64) (x1 + (2 : Int))), (.tv [] .ref (Option.none ))]) []))))))))) : EvF PP orc 53 [.tv [] .str x0, .tv [] (.int .i64) x1] [] Q := vcF_ok (sg := sg) (Eq.mp (by kernel_rfl) h)
/-- tronage/lexer.action -/
theorem vc37 (x0 : List Int) (x1 : Int) (Q : AV → Heap → Prop) (h :
(∃ y0 : (Int → (Int → Prop)),
 (∃ y1 : (Int → (Int → Nat)),
 ((y0 (0 : Int) x1) ∧
 (∀ z2 : Int,
 (∀ z3 : Int,
 ((y0 z2 z3) →
 ((((decide (z3 < ((List.length x0) : Int))) = true) →
  (Need (((0 : Int) ≤ z3) ∧ (z3 < ((List.length x0) : Int))) ∧
  ((((decide ((List.getD x0 (Int.toNat z3) (0 : Int)) = (123 : Int))) = true) →
   (Need (((-9223372036854775808 : Int) ≤ (z2 + (1 : Int))) ∧ ((z2 + (1 : Int)) ≤ (9223372036854775807 : Int))) ∧
   ((((decide ((4 : Int) < (z2 + (1 : Int)))) = true) →
    (Q (.tup [(.tv [] .str (List.map (fun v8 => (((BitVec.toNat (UInt8.toBitVec v8)) : Nat) : Int)) [])), (.tv [] (.int .i64) (0 : Int)), (.op (1, 0) [])]) [((1, 0), ⟨⟨(.pair (.int .i64) (.pair (.int .i64) .unit)), ((13 : Int), (z3, ()))⟩, []⟩)])) ∧
   (((decide ((4 : Int) < (z2 + (1 : Int)))) = false) →
   (Need (((-9223372036854775808 : Int) ≤ (z3 + (1 : Int))) ∧ ((z3 + (1 : Int)) ≤ (9223372036854775807 : Int))) ∧
   ((y0 (z2 + (1 : Int)) (z3 + (1 : Int))) ∧
   Need ((y1 (z2 + (1 : Int)) (z3 + (1 : Int))) < (y1 z2 z3)))))))) ∧
  (((decide ((List.getD x0 (Int.toNat z3) (0 : Int)) = (123 : Int))) = false) →
  ((((decide ((List.getD x0 (Int.toNat z3) (0 : Int)) = (125 : Int))) = true) →
   (Need (((-9223372036854775808 : Int) ≤ (z2 - (1 : Int))) ∧ ((z2 - (1 : Int)) ≤ (9223372036854775807 : Int))) ∧
   ((((decide ((0 : Int) < (z2 - (1 : Int)))) = true) →
    (Need (((-9223372036854775808 : Int) ≤ (z3 + (1 : Int))) ∧ ((z3 + (1 : Int)) ≤ (9223372036854775807 : Int))) ∧
    ((y0 (z2 - (1 : Int)) (z3 + (1 : Int))) ∧
    Need ((y1 (z2 - (1 : Int)) (z3 + (1 : Int))) < (y1 z2 z3))))) ∧
   (((decide ((0 : Int) < (z2 - (1 : Int)))) = false) →
   (Need (((-9223372036854775808 : Int) ≤ (z3 - x1)) ∧ ((z3 - x1) ≤ (9223372036854775807 : Int))) ∧
   (Need (((-9223372036854775808 : Int) ≤ ((z3 - x1) - (1 : Int))) ∧ (((z3 - x1) - (1 : Int)) ≤ (9223372036854775807 : Int))) ∧
   ((((decide ((200 : Int) < ((z3 - x1) - (1 : Int)))) = true) →
    (Q (.tup [(.tv [] .str (List.map (fun v15 => (((BitVec.toNat (UInt8.toBitVec v15)) : Nat) : Int)) [])), (.tv [] (.int .i64) (0 : Int)), (.op (1, 0) [])]) [((1, 0), ⟨⟨(.pair (.int .i64) (.pair (.int .i64) .unit)), ((12 : Int), (x1, ()))⟩, []⟩)])) ∧
   (((decide ((200 : Int) < ((z3 - x1) - (1 : Int)))) = false) →
   (Need (((-9223372036854775808 : Int) ≤ (x1 + (1 : Int))) ∧ ((x1 + (1 : Int)) ≤ (9223372036854775807 : Int))) ∧
   (Need (((0 : Int) ≤ (x1 + (1 : Int))) ∧ (((x1 + (1 : Int)) ≤ z3) ∧ (z3 ≤ ((List.length x0) : Int)))) ∧
   (Need (((-9223372036854775808 : Int) ≤ (z3 + (1 : Int))) ∧ ((z3 + (1 : Int)) ≤ (9223372036854775807 : Int))) ∧
   (Q (.tup [(.tv [] .str (cut x0 (Int.toNat (x1 + (1 : Int))) (Int.toNat z3))), (.tv [] (.int .i64) (z3 + (1 : Int))), (.tv [] .ref (Option.none ))]) [])))))))))))) ∧
  (((decide ((List.getD x0 (Int.toNat z3) (0 : Int)) = (125 : Int))) = false) →
  (Need (((-9223372036854775808 : Int) ≤ (z3 + (1 : Int))) ∧ ((z3 + (1 : Int)) ≤ (9223372036854775807 : Int))) ∧
  ((y0 z2 (z3 + (1 : Int))) ∧
  Need ((y1 z2 (z3 + (1 : Int))) < (y1 z2 z3)))))))))) ∧
 (((decide (z3 < ((List.length x0) : Int))) = false) →
 (Q (.tup [(.tv [] .str (List.map (fun v19 => (((BitVec.toNat (UInt8.toBitVec v19)) : Nat) : Int)) [])), (.tv [] (.int .i64) (0 : Int)), (.op (1, 0) [])]) [((1, 0), ⟨⟨(.pair (.int .i64) (.pair (.int .i64) .unit)), ((11 : Int), (x1, ()))⟩, []⟩)])))))))))) : EvF PP orc 37 [.tv [] .str x0, .tv [] (.int .i64) x1] [] Q := vcF_ok (sg := sg) (Eq.mp (by kernel_rfl) h)
/-- tronage/lexer.text -/
theorem vc35 (x0 : List Int) (x1 : Int) (Q : AV → Heap → Prop) (h :
(Need (((-9223372036854775808 : Int) ≤ (x1 + (1 : Int))) ∧ ((x1 + (1 : Int)) ≤ (9223372036854775807 : Int))) ∧
 (∃ y0 : ((List Int) → (Int → Prop)),
 (∃ y1 : ((List Int) → (Int → Nat)),
 ((y0 [] (x1 + (1 : Int))) ∧
 (∀ z2 : (List Int),
 (∀ z3 : Int,
 ((y0 z2 z3) →
 ((((decide (z3 < ((List.length x0) : Int))) = true) →
  (Need (((0 : Int) ≤ z3) ∧ (z3 < ((List.length x0) : Int))) ∧
  ((((decide ((List.getD x0 (Int.toNat z3) (0 : Int)) ≠ (10 : Int))) = true) →
   (Need (((0 : Int) ≤ z3) ∧ (z3 < ((List.length x0) : Int))) ∧
   ((((decide ((List.getD x0 (Int.toNat z3) (0 : Int)) = (34 : Int))) = true) →
    ((((decide (((List.length z2) : Int) = (0 : Int))) = true) →
     (Q (.tup [(.tv [] .str (List.map (fun v9 => (((BitVec.toNat (UInt8.toBitVec v9)) : Nat) : Int)) [])), (.tv [] (.int .i64) (0 : Int)), (.op (1, 0) [])]) [((1, 0), ⟨⟨(.pair (.int .i64) (.pair (.int .i64) .unit)), ((10 : Int), (x1, ()))⟩, []⟩)])) ∧
    (((decide (((List.length z2) : Int) = (0 : Int))) = false) →
    ((((decide ((32 : Int) < ((List.length z2) : Int))) = true) →
     (Q (.tup [(.tv [] .str (List.map (fun v12 => (((BitVec.toNat (UInt8.toBitVec v12)) : Nat) : Int)) [])), (.tv [] (.int .i64) (0 : Int)), (.op (1, 0) [])]) [((1, 0), ⟨⟨(.pair (.int .i64) (.pair (.int .i64) .unit)), ((12 : Int), (x1, ()))⟩, []⟩)])) ∧
    (((decide ((32 : Int) < ((List.length z2) : Int))) = false) →
    (Need (((-9223372036854775808 : Int) ≤ (z3 + (1 : Int))) ∧ ((z3 + (1 : Int)) ≤ (9223372036854775807 : Int))) ∧
    (Q (.tup [(.tv [] .str z2), (.tv [] (.int .i64) (z3 + (1 : Int))), (.tv [] .ref (Option.none ))]) []))))))) ∧
   (((decide ((List.getD x0 (Int.toNat z3) (0 : Int)) = (34 : Int))) = false) →
   ((((decide ((List.getD x0 (Int.toNat z3) (0 : Int)) = (92 : Int))) = true) →
    ((∃ y16 : Int,
     (∃ y17 : Int,
     (∃ y18 : Int,
     (Need (E 51 [(.tv [] .str x0), (.tv [] (.int .i64) z3), (.tv [] .str (List.map (fun v19 => (((BitVec.toNat (UInt8.toBitVec v19)) : Nat) : Int)) [(92 : UInt8), (34 : UInt8), (110 : UInt8), (116 : UInt8)]))] [] (.tup [(.tv [] (.int .u8) y16), (.op (1, 0) [])]) [((1, 0), ⟨⟨(.pair (.int .i64) (.pair (.int .i64) .unit)), (y17, (y18, ()))⟩, []⟩)]) ∧
     ((((!false) = true) →
      (Q (.tup [(.tv [] .str (List.map (fun v21 => (((BitVec.toNat (UInt8.toBitVec v21)) : Nat) : Int)) [])), (.tv [] (.int .i64) (0 : Int)), (.op (1, 0) [])]) [((1, 0), ⟨⟨(.pair (.int .i64) (.pair (.int .i64) .unit)), (y17, (y18, ()))⟩, []⟩)])) ∧
     (((!false) = false) →
     (Need (((List.length z2) + (List.length [y16])) ≤ bigN) ∧
     (Need (((-9223372036854775808 : Int) ≤ (z3 + (1 : Int))) ∧ ((z3 + (1 : Int)) ≤ (9223372036854775807 : Int))) ∧
     (Need (((-9223372036854775808 : Int) ≤ ((z3 + (1 : Int)) + (1 : Int))) ∧ (((z3 + (1 : Int)) + (1 : Int)) ≤ (9223372036854775807 : Int))) ∧
     ((y0 (z2 ++ [y16]) ((z3 + (1 : Int)) + (1 : Int))) ∧
     Need ((y1 (z2 ++ [y16]) ((z3 + (1 : Int)) + (1 : Int))) < (y1 z2 z3)))))))))))) ∨
    (∃ y23 : Int,
    (Need (E 51 [(.tv [] .str x0), (.tv [] (.int .i64) z3), (.tv [] .str (List.map (fun v24 => (((BitVec.toNat (UInt8.toBitVec v24)) : Nat) : Int)) [(92 : UInt8), (34 : UInt8), (110 : UInt8), (116 : UInt8)]))] [] (.tup [(.tv [] (.int .u8) y23), (.tv [] .ref (Option.none ))]) []) ∧
    ((((!true) = true) →
     (Q (.tup [(.tv [] .str (List.map (fun v26 => (((BitVec.toNat (UInt8.toBitVec v26)) : Nat) : Int)) [])), (.tv [] (.int .i64) (0 : Int)), (.tv [] .ref (Option.none ))]) [])) ∧
    (((!true) = false) →
    (Need (((List.length z2) + (List.length [y23])) ≤ bigN) ∧
    (Need (((-9223372036854775808 : Int) ≤ (z3 + (1 : Int))) ∧ ((z3 + (1 : Int)) ≤ (9223372036854775807 : Int))) ∧
    (Need (((-9223372036854775808 : Int) ≤ ((z3 + (1 : Int)) + (1 : Int))) ∧ (((z3 + (1 : Int)) + (1 : Int)) ≤ (9223372036854775807 : Int))) ∧
    ((y0 (z2 ++ [y23]) ((z3 + (1 : Int)) + (1 : Int))) ∧
    Need ((y1 (z2 ++ [y23]) ((z3 + (1 : Int)) + (1 : Int))) < (y1 z2 z3)))))))))))) ∧
   (((decide ((List.getD x0 (Int.toNat z3) (0 : Int)) = (92 : Int))) = false) →
   (Need (((0 : Int) ≤ z3) ∧ (z3 < ((List.length x0) : Int))) ∧
   (Need (((List.length z2) + (List.length [(List.getD x0 (Int.toNat z3) (0 : Int))])) ≤ bigN) ∧
   (Need (((-9223372036854775808 : Int) ≤ (z3 + (1 : Int))) ∧ ((z3 + (1 : Int)) ≤ (9223372036854775807 : Int))) ∧
   ((y0 (z2 ++ [(List.getD x0 (Int.toNat z3) (0 : Int))]) (z3 + (1 : Int))) ∧
   Need ((y1 (z2 ++ [(List.getD x0 (Int.toNat z3) (0 : Int))]) (z3 + (1 : Int))) < (y1 z2 z3)))))))))))) ∧
  (((decide ((List.getD x0 (Int.toNat z3) (0 : Int)) ≠ (10 : Int))) = false) →
  (Q (.tup [(.tv [] .str (List.map (fun v30 => (((BitVec.toNat (UInt8.toBitVec v30)) : Nat) : Int)) [])), (.tv [] (.int .i64) (0 : Int)), (.op (1, 0) [])]) [((1, 0), ⟨⟨(.pair (.int .i64) (.pair (.int .i64) .unit)), ((11 : Int), (x1, ()))⟩, []⟩)]))))) ∧
 (((decide (z3 < ((List.length x0) : Int))) = false) →
 (Q (.tup [(.tv [] .str (List.map (fun v32 => (((BitVec.toNat (UInt8.toBitVec v32)) : Nat) : Int)) [])), (.tv [] (.int .i64) (0 : Int)), (.op (1, 0) [])]) [((1, 0), ⟨⟨(.pair (.int .i64) (.pair (.int .i64) .unit)), ((11 : Int), (x1, ()))⟩, []⟩)]))))))))))) : EvF PP orc 35 [.tv [] .str x0, .tv [] (.int .i64) x1] [] Q := vcF_ok (sg := sg) (Eq.mp (by kernel_rfl) h)
/-- tronage/lexer.word -/
theorem vc34 (x0 : List Int) (x1 : Int) (Q : AV → Heap → Prop) (h :
(Need (((-9223372036854775808 : Int) ≤ (x1 + (1 : Int))) ∧ ((x1 + (1 : Int)) ≤ (9223372036854775807 : Int))) ∧
 (∃ y0 : Int,
 (Need (E 28 [(.tv [] .str x0), (.tv [] (.int .i64) (x1 + (1 : Int))), (.fn 49 [] [])] [] (.tv [] (.int .i64) y0) []) ∧
 (Need (((-9223372036854775808 : Int) ≤ (x1 + (1 : Int))) ∧ ((x1 + (1 : Int)) ≤ (9223372036854775807 : Int))) ∧
 ((((decide ((x1 + (1 : Int)) < ((List.length x0) : Int))) = true) →
  (Need (((-9223372036854775808 : Int) ≤ (x1 + (1 : Int))) ∧ ((x1 + (1 : Int)) ≤ (9223372036854775807 : Int))) ∧
  (Need (((0 : Int) ≤ (x1 + (1 : Int))) ∧ ((x1 + (1 : Int)) < ((List.length x0) : Int))) ∧
  ((((decide ((List.getD x0 (Int.toNat (x1 + (1 : Int))) (0 : Int)) = (37 : Int))) = true) →
   (Need (((-9223372036854775808 : Int) ≤ (x1 + (1 : Int))) ∧ ((x1 + (1 : Int)) ≤ (9223372036854775807 : Int))) ∧
   (Need (((-9223372036854775808 : Int) ≤ (x1 + (1 : Int))) ∧ ((x1 + (1 : Int)) ≤ (9223372036854775807 : Int))) ∧
   (Need (((-9223372036854775808 : Int) ≤ ((x1 + (1 : Int)) + (1 : Int))) ∧ (((x1 + (1 : Int)) + (1 : Int)) ≤ (9223372036854775807 : Int))) ∧
   (Need (((0 : Int) ≤ (x1 + (1 : Int))) ∧ (((x1 + (1 : Int)) ≤ ((x1 + (1 : Int)) + (1 : Int))) ∧ (((x1 + (1 : Int)) + (1 : Int)) ≤ ((List.length x0) : Int)))) ∧
   (∃ y3 : Bool,
   (Need (E 50 [(.tv [] (.slice .str) L.wordsL), (.tv [] .str (cut x0 (Int.toNat (x1 + (1 : Int))) (Int.toNat ((x1 + (1 : Int)) + (1 : Int)))))] [] (.tv [] .bool y3) []) ∧
   ((((!y3) = true) →
    (Q (.tup [(.tv [] .str (List.map (fun v5 => (((BitVec.toNat (UInt8.toBitVec v5)) : Nat) : Int)) [])), (.tv [] (.int .i64) (0 : Int)), (.op (1, 0) [])]) [((1, 0), ⟨⟨(.pair (.int .i64) (.pair (.int .i64) .unit)), ((10 : Int), (x1, ()))⟩, []⟩)])) ∧
   (((!y3) = false) →
   (Need (((-9223372036854775808 : Int) ≤ (x1 + (1 : Int))) ∧ ((x1 + (1 : Int)) ≤ (9223372036854775807 : Int))) ∧
   (Need (((-9223372036854775808 : Int) ≤ ((x1 + (1 : Int)) + (1 : Int))) ∧ (((x1 + (1 : Int)) + (1 : Int)) ≤ (9223372036854775807 : Int))) ∧
   (Q (.tup [(.tv [] .str (cut x0 (Int.toNat (x1 + (1 : Int))) (Int.toNat ((x1 + (1 : Int)) + (1 : Int))))), (.tv [] (.int .i64) ((x1 + (1 : Int)) + (1 : Int))), (.tv [] .ref (Option.none ))]) [])))))))))))) ∧
  (((decide ((List.getD x0 (Int.toNat (x1 + (1 : Int))) (0 : Int)) = (37 : Int))) = false) →
  (Need (((-9223372036854775808 : Int) ≤ (x1 + (1 : Int))) ∧ ((x1 + (1 : Int)) ≤ (9223372036854775807 : Int))) ∧
  (Need (((-9223372036854775808 : Int) ≤ (x1 + (1 : Int))) ∧ ((x1 + (1 : Int)) ≤ (9223372036854775807 : Int))) ∧
  (Need (((-9223372036854775808 : Int) ≤ ((x1 + (1 : Int)) + y0)) ∧ (((x1 + (1 : Int)) + y0) ≤ (9223372036854775807 : Int))) ∧
  (Need (((0 : Int) ≤ (x1 + (1 : Int))) ∧ (((x1 + (1 : Int)) ≤ ((x1 + (1 : Int)) + y0)) ∧ (((x1 + (1 : Int)) + y0) ≤ ((List.length x0) : Int)))) ∧
  (∃ y8 : Bool,
  (Need (E 50 [(.tv [] (.slice .str) L.wordsL), (.tv [] .str (cut x0 (Int.toNat (x1 + (1 : Int))) (Int.toNat ((x1 + (1 : Int)) + y0))))] [] (.tv [] .bool y8) []) ∧
  ((((!y8) = true) →
   (Q (.tup [(.tv [] .str (List.map (fun v10 => (((BitVec.toNat (UInt8.toBitVec v10)) : Nat) : Int)) [])), (.tv [] (.int .i64) (0 : Int)), (.op (1, 0) [])]) [((1, 0), ⟨⟨(.pair (.int .i64) (.pair (.int .i64) .unit)), ((10 : Int), (x1, ()))⟩, []⟩)])) ∧
  (((!y8) = false) →
  (Need (((-9223372036854775808 : Int) ≤ (x1 + (1 : Int))) ∧ ((x1 + (1 : Int)) ≤ (9223372036854775807 : Int))) ∧
  (Need (((-9223372036854775808 : Int) ≤ ((x1 + (1 : Int)) + y0)) ∧ (((x1 + (1 : Int)) + y0) ≤ (9223372036854775807 : Int))) ∧
  (Q (.tup [(.tv [] .str (cut x0 (Int.toNat (x1 + (1 : Int))) (Int.toNat ((x1 + (1 : Int)) + y0)))), (.tv [] (.int .i64) ((x1 + (1 : Int)) + y0)), (.tv [] .ref (Option.none ))]) [])))))))))))))))) ∧
 (((decide ((x1 + (1 : Int)) < ((List.length x0) : Int))) = false) →
 (Need (((-9223372036854775808 : Int) ≤ (x1 + (1 : Int))) ∧ ((x1 + (1 : Int)) ≤ (9223372036854775807 : Int))) ∧
 (Need (((-9223372036854775808 : Int) ≤ (x1 + (1 : Int))) ∧ ((x1 + (1 : Int)) ≤ (9223372036854775807 : Int))) ∧
 (Need (((-9223372036854775808 : Int) ≤ ((x1 + (1 : Int)) + y0)) ∧ (((x1 + (1 : Int)) + y0) ≤ (9223372036854775807 : Int))) ∧
 (Need (((0 : Int) ≤ (x1 + (1 : Int))) ∧ (((x1 + (1 : Int)) ≤ ((x1 + (1 : Int)) + y0)) ∧ (((x1 + (1 : Int)) + y0) ≤ ((List.length x0) : Int)))) ∧
 (∃ y13 : Bool,
 (Need (E 50 [(.tv [] (.slice .str) L.wordsL), (.tv [] .str (cut x0 (Int.toNat (x1 + (1 : Int))) (Int.toNat ((x1 + (1 : Int)) + y0))))] [] (.tv [] .bool y13) []) ∧
 ((((!y13) = true) →
  (Q (.tup [(.tv [] .str (List.map (fun v15 => (((BitVec.toNat (UInt8.toBitVec v15)) : Nat) : Int)) [])), (.tv [] (.int .i64) (0 : Int)), (.op (1, 0) [])]) [((1, 0), ⟨⟨(.pair (.int .i64) (.pair (.int .i64) .unit)), ((10 : Int), (x1, ()))⟩, []⟩)])) ∧
 (((!y13) = false) →
 (Need (((-9223372036854775808 : Int) ≤ (x1 + (1 : Int))) ∧ ((x1 + (1 : Int)) ≤ (9223372036854775807 : Int))) ∧
 (Need (((-9223372036854775808 : Int) ≤ ((x1 + (1 : Int)) + y0)) ∧ (((x1 + (1 : Int)) + y0) ≤ (9223372036854775807 : Int))) ∧
 (Q (.tup [(.tv [] .str (cut x0 (Int.toNat (x1 + (1 : Int))) (Int.toNat ((x1 + (1 : Int)) + y0)))), (.tv [] (.int .i64) ((x1 + (1 : Int)) + y0)), (.tv [] .ref (Option.none ))]) [])))))))))))))))))) : EvF PP orc 34 [.tv [] .str x0, .tv [] (.int .i64) x1] [] Q := vcF_ok (sg := sg) (Eq.mp (by kernel_rfl) h)
/-- tronage/lexer.At -/
theorem vc16 (x0 : List Int) (x1 : Int) (Q : AV → Heap → Prop) (h :
(Need (((0 : Int) ≤ (0 : Int)) ∧ (((0 : Int) ≤ (max (0 : Int) (min x1 ((List.length x0) : Int)))) ∧ ((max (0 : Int) (min x1 ((List.length x0) : Int))) ≤ ((List.length x0) : Int)))) ∧
 (∃ y0 : Int,
 (Need (E 25 [(.tv [] .str (cut x0 0 (Int.toNat (max (0 : Int) (min x1 ((List.length x0) : Int)))))), (.tv [] .str (List.map (fun v1 => (((BitVec.toNat (UInt8.toBitVec v1)) : Nat) : Int)) [(10 : UInt8)]))] [] (.tv [] (.int .i64) y0) []) ∧
 (Need (((-9223372036854775808 : Int) ≤ ((1 : Int) + y0)) ∧ (((1 : Int) + y0) ≤ (9223372036854775807 : Int))) ∧
 (∃ y2 : Int,
 (Need (E 26 [(.tv [] .str (cut x0 0 (Int.toNat (max (0 : Int) (min x1 ((List.length x0) : Int)))))), (.tv [] (.int .u8) (10 : Int))] [] (.tv [] (.int .i64) y2) []) ∧
 (Need (((-9223372036854775808 : Int) ≤ (((List.length (cut x0 0 (Int.toNat (max (0 : Int) (min x1 ((List.length x0) : Int)))))) : Int) - y2)) ∧ ((((List.length (cut x0 0 (Int.toNat (max (0 : Int) (min x1 ((List.length x0) : Int)))))) : Int) - y2) ≤ (9223372036854775807 : Int))) ∧
 (Q (.tv [] (.pair (.int .i64) (.pair (.int .i64) .unit)) (((1 : Int) + y0), ((((List.length (cut x0 0 (Int.toNat (max (0 : Int) (min x1 ((List.length x0) : Int)))))) : Int) - y2), ()))) []))))))))) : EvF PP orc 16 [.tv [] .str x0, .tv [] (.int .i64) x1] [] Q := vcF_ok (sg := sg) (Eq.mp (by kernel_rfl) h)
/-- tronage/lexer.Name -/
theorem vc17 (x0 : List Int) (Q : AV → Heap → Prop) (h :
((((!(decide (x0 = []))) = true) →
  (Need (((0 : Int) ≤ (0 : Int)) ∧ ((0 : Int) < ((List.length x0) : Int))) ∧
  (∃ y1 : Bool,
  (Need (E 27 [(.tv [] (.int .u8) (List.getD x0 0 (0 : Int)))] [] (.tv [] .bool y1) []) ∧
  (((y1 = true) →
   (∃ y3 : Int,
   (Need (E 28 [(.tv [] .str x0), (.tv [] (.int .i64) (0 : Int)), (.fn 29 [] [])] [] (.tv [] (.int .i64) y3) []) ∧
   (Q (.tv [] .bool (decide (y3 = ((List.length x0) : Int)))) [])))) ∧
  ((y1 = false) →
  (Q (.tv [] .bool false) []))))))) ∧
 (((!(decide (x0 = []))) = false) →
 (Q (.tv [] .bool false) [])))) : EvF PP orc 17 [.tv [] .str x0] [] Q := vcF_ok (sg := sg) (Eq.mp (by kernel_rfl) h)
/-- tronage/lexer.members -/
theorem vc52 (x0 : List (Bool)) (Q : AV → Heap → Prop) (h :
(∃ y0 : ((List Int) → (Int → Prop)),
 (∃ y1 : ((List Int) → (Int → Nat)),
 ((y0 [] (0 : Int)) ∧
 (∀ z2 : (List Int),
 (∀ z3 : Int,
 ((y0 z2 z3) →
 ((((decide (z3 < (256 : Int))) = true) →
  (Need (((0 : Int) ≤ z3) ∧ (z3 < (256 : Int))) ∧
  ((((List.getD x0 (Int.toNat z3) false) = true) →
   (Need (((0 : Int) ≤ z3) ∧ (z3 ≤ (255 : Int))) ∧
   (Need (((List.length z2) + (List.length [z3])) ≤ bigN) ∧
   (Need (((-9223372036854775808 : Int) ≤ (z3 + (1 : Int))) ∧ ((z3 + (1 : Int)) ≤ (9223372036854775807 : Int))) ∧
   (Need (x0 = x0) ∧
   ((y0 (z2 ++ [z3]) (z3 + (1 : Int))) ∧
   Need ((y1 (z2 ++ [z3]) (z3 + (1 : Int))) < (y1 z2 z3)))))))) ∧
  (((List.getD x0 (Int.toNat z3) false) = false) →
  (Need (((-9223372036854775808 : Int) ≤ (z3 + (1 : Int))) ∧ ((z3 + (1 : Int)) ≤ (9223372036854775807 : Int))) ∧
  (Need (x0 = x0) ∧
  ((y0 z2 (z3 + (1 : Int))) ∧
  Need ((y1 z2 (z3 + (1 : Int))) < (y1 z2 z3))))))))) ∧
 (((decide (z3 < (256 : Int))) = false) →
 (Q (.tv [] .str z2) [])))))))))) : EvF PP orc 52 [.tv [] (.arr 0 256 .bool) x0] [] Q := vcF_ok (sg := sg) (Eq.mp (by kernel_rfl) h)
/-- tronage/lexer.class -/
theorem vc36 (x0 : List Int) (x1 : Int) (Q : AV → Heap → Prop) (h :
(Need (((-9223372036854775808 : Int) ≤ (x1 + (1 : Int))) ∧ ((x1 + (1 : Int)) ≤ (9223372036854775807 : Int))) ∧
 (∃ y0 : (Bool → (Int → (Int → ((List Bool) → Prop)))),
 (∃ y1 : (Bool → (Int → (Int → ((List Bool) → Nat)))),
 ((y0 false (-(1 : Int)) (x1 + (1 : Int)) (List.replicate 256 false)) ∧
 (∀ z2 : Bool,
 (∀ z3 : Int,
 (∀ z4 : Int,
 (∀ z5 : (List Bool),
 ((y0 z2 z3 z4 z5) →
 ((((decide (z4 < ((List.length x0) : Int))) = true) →
  (Need (((0 : Int) ≤ z4) ∧ (z4 < ((List.length x0) : Int))) ∧
  ((((decide ((List.getD x0 (Int.toNat z4) (0 : Int)) ≠ (10 : Int))) = true) →
   (Need (((0 : Int) ≤ z4) ∧ (z4 < ((List.length x0) : Int))) ∧
   ((((decide ((List.getD x0 (Int.toNat z4) (0 : Int)) = (93 : Int))) = true) →
    ((((!z2) = true) →
     (Q (.tup [(.tv [] .str (List.map (fun v11 => (((BitVec.toNat (UInt8.toBitVec v11)) : Nat) : Int)) [])), (.tv [] (.int .i64) (0 : Int)), (.op (1, 0) [])]) [((1, 0), ⟨⟨(.pair (.int .i64) (.pair (.int .i64) .unit)), ((10 : Int), (x1, ()))⟩, []⟩)])) ∧
    (((!z2) = false) →
    (∃ y13 : (List Int),
    (Need (E 52 [(.tv [] (.arr 0 256 .bool) z5)] [] (.tv [] .str y13) []) ∧
    (Need (((-9223372036854775808 : Int) ≤ (z4 + (1 : Int))) ∧ ((z4 + (1 : Int)) ≤ (9223372036854775807 : Int))) ∧
    (Q (.tup [(.tv [] .str y13), (.tv [] (.int .i64) (z4 + (1 : Int))), (.tv [] .ref (Option.none ))]) []))))))) ∧
   (((decide ((List.getD x0 (Int.toNat z4) (0 : Int)) = (93 : Int))) = false) →
   ((((decide ((List.getD x0 (Int.toNat z4) (0 : Int)) = (45 : Int))) = true) →
    ((((decide (z3 < (0 : Int))) = true) →
     (Q (.tup [(.tv [] .str (List.map (fun v17 => (((BitVec.toNat (UInt8.toBitVec v17)) : Nat) : Int)) [])), (.tv [] (.int .i64) (0 : Int)), (.op (1, 0) [])]) [((1, 0), ⟨⟨(.pair (.int .i64) (.pair (.int .i64) .unit)), ((10 : Int), (z4, ()))⟩, []⟩)])) ∧
    (((decide (z3 < (0 : Int))) = false) →
    (Need (((-9223372036854775808 : Int) ≤ (z4 + (1 : Int))) ∧ ((z4 + (1 : Int)) ≤ (9223372036854775807 : Int))) ∧
    ((((decide (((List.length x0) : Int) ≤ (z4 + (1 : Int)))) = true) →
     (Q (.tup [(.tv [] .str (List.map (fun v20 => (((BitVec.toNat (UInt8.toBitVec v20)) : Nat) : Int)) [])), (.tv [] (.int .i64) (0 : Int)), (.op (1, 0) [])]) [((1, 0), ⟨⟨(.pair (.int .i64) (.pair (.int .i64) .unit)), ((11 : Int), (x1, ()))⟩, []⟩)])) ∧
    (((decide (((List.length x0) : Int) ≤ (z4 + (1 : Int)))) = false) →
    (Need (((-9223372036854775808 : Int) ≤ (z4 + (1 : Int))) ∧ ((z4 + (1 : Int)) ≤ (9223372036854775807 : Int))) ∧
    (Need (((0 : Int) ≤ (z4 + (1 : Int))) ∧ ((z4 + (1 : Int)) < ((List.length x0) : Int))) ∧
    ((((decide ((List.getD x0 (Int.toNat (z4 + (1 : Int))) (0 : Int)) = (10 : Int))) = true) →
     (Q (.tup [(.tv [] .str (List.map (fun v23 => (((BitVec.toNat (UInt8.toBitVec v23)) : Nat) : Int)) [])), (.tv [] (.int .i64) (0 : Int)), (.op (1, 0) [])]) [((1, 0), ⟨⟨(.pair (.int .i64) (.pair (.int .i64) .unit)), ((11 : Int), (x1, ()))⟩, []⟩)])) ∧
    (((decide ((List.getD x0 (Int.toNat (z4 + (1 : Int))) (0 : Int)) = (10 : Int))) = false) →
    (Need (((-9223372036854775808 : Int) ≤ (z4 + (1 : Int))) ∧ ((z4 + (1 : Int)) ≤ (9223372036854775807 : Int))) ∧
    (Need (((0 : Int) ≤ (z4 + (1 : Int))) ∧ ((z4 + (1 : Int)) < ((List.length x0) : Int))) ∧
    ((((decide ((List.getD x0 (Int.toNat (z4 + (1 : Int))) (0 : Int)) = (93 : Int))) = true) →
     (Q (.tup [(.tv [] .str (List.map (fun v26 => (((BitVec.toNat (UInt8.toBitVec v26)) : Nat) : Int)) [])), (.tv [] (.int .i64) (0 : Int)), (.op (1, 0) [])]) [((1, 0), ⟨⟨(.pair (.int .i64) (.pair (.int .i64) .unit)), ((10 : Int), (z4, ()))⟩, []⟩)])) ∧
    (((decide ((List.getD x0 (Int.toNat (z4 + (1 : Int))) (0 : Int)) = (93 : Int))) = false) →
    (Need (((-9223372036854775808 : Int) ≤ (z4 + (1 : Int))) ∧ ((z4 + (1 : Int)) ≤ (9223372036854775807 : Int))) ∧
    ((∃ y28 : Int,
     (∃ y29 : Int,
     (∃ y30 : Int,
     (∃ y31 : Int,
     (Need (E 53 [(.tv [] .str x0), (.tv [] (.int .i64) (z4 + (1 : Int)))] [] (.tup [(.tv [] (.int .u8) y28), (.tv [] (.int .i64) y29), (.op (1, 0) [])]) [((1, 0), ⟨⟨(.pair (.int .i64) (.pair (.int .i64) .unit)), (y30, (y31, ()))⟩, []⟩)]) ∧
     (((false = true) →
      (Need (((-9223372036854775808 : Int) ≤ y28) ∧ (y28 ≤ (9223372036854775807 : Int))) ∧
      ((((decide (y28 < z3)) = true) →
       ((((!false) = true) →
        (Q (.tup [(.tv [] .str (List.map (fun v35 => (((BitVec.toNat (UInt8.toBitVec v35)) : Nat) : Int)) [])), (.tv [] (.int .i64) (0 : Int)), (.op (1, 0) [])]) [((1, 0), ⟨⟨(.pair (.int .i64) (.pair (.int .i64) .unit)), ((10 : Int), (z4, ()))⟩, []⟩)])) ∧
       (((!false) = false) →
       (∃ y37 : (Int → (Int → (Int → (Int → (Int → ((List Bool) → Prop)))))),
       (∃ y38 : (Int → (Int → (Int → (Int → (Int → ((List Bool) → Nat)))))),
       ((y37 z3 (10 : Int) z4 y30 y31 z5) ∧
       (∀ z39 : Int,
       (∀ z40 : Int,
       (∀ z41 : Int,
       (∀ z42 : Int,
       (∀ z43 : Int,
       (∀ z44 : (List Bool),
       ((y37 z39 z40 z41 z42 z43 z44) →
       (Need (((-9223372036854775808 : Int) ≤ y28) ∧ (y28 ≤ (9223372036854775807 : Int))) ∧
       ((((decide (z39 ≤ y28)) = true) →
        (Need (((0 : Int) ≤ z39) ∧ (z39 < (256 : Int))) ∧
        (Need ((Int.toNat z39) < 256) ∧
        (Need (((-9223372036854775808 : Int) ≤ (z39 + (1 : Int))) ∧ ((z39 + (1 : Int)) ≤ (9223372036854775807 : Int))) ∧
        (Need (((11 : Int), (x1, ())) = ((11 : Int), (x1, ()))) ∧
        ((y37 (z39 + (1 : Int)) z40 z41 z42 z43 (List.set z44 (Int.toNat z39) true)) ∧
        Need ((y38 (z39 + (1 : Int)) z40 z41 z42 z43 (List.set z44 (Int.toNat z39) true)) < (y38 z39 z40 z41 z42 z43 z44)))))))) ∧
       (((decide (z39 ≤ y28)) = false) →
       (Need (((11 : Int), (x1, ())) = ((11 : Int), (x1, ()))) ∧
       ((y0 z2 (-(1 : Int)) y29 z44) ∧
       Need ((y1 z2 (-(1 : Int)) y29 z44) < (y1 z2 z3 z4 z5)))))))))))))))))))) ∧
      (((decide (y28 < z3)) = false) →
      ((((!false) = true) →
       (Q (.tup [(.tv [] .str (List.map (fun v50 => (((BitVec.toNat (UInt8.toBitVec v50)) : Nat) : Int)) [])), (.tv [] (.int .i64) (0 : Int)), (.op (1, 0) [])]) [((1, 0), ⟨⟨(.pair (.int .i64) (.pair (.int .i64) .unit)), (y30, (y31, ()))⟩, []⟩)])) ∧
      (((!false) = false) →
      (∃ y52 : (Int → (Int → (Int → ((List Bool) → Prop)))),
      (∃ y53 : (Int → (Int → (Int → ((List Bool) → Nat)))),
      ((y52 z3 y30 y31 z5) ∧
      (∀ z54 : Int,
      (∀ z55 : Int,
      (∀ z56 : Int,
      (∀ z57 : (List Bool),
      ((y52 z54 z55 z56 z57) →
      (Need (((-9223372036854775808 : Int) ≤ y28) ∧ (y28 ≤ (9223372036854775807 : Int))) ∧
      ((((decide (z54 ≤ y28)) = true) →
       (Need (((0 : Int) ≤ z54) ∧ (z54 < (256 : Int))) ∧
       (Need ((Int.toNat z54) < 256) ∧
       (Need (((-9223372036854775808 : Int) ≤ (z54 + (1 : Int))) ∧ ((z54 + (1 : Int)) ≤ (9223372036854775807 : Int))) ∧
       (Need (((11 : Int), (x1, ())) = ((11 : Int), (x1, ()))) ∧
       ((y52 (z54 + (1 : Int)) z55 z56 (List.set z57 (Int.toNat z54) true)) ∧
       Need ((y53 (z54 + (1 : Int)) z55 z56 (List.set z57 (Int.toNat z54) true)) < (y53 z54 z55 z56 z57)))))))) ∧
      (((decide (z54 ≤ y28)) = false) →
      (Need (((11 : Int), (x1, ())) = ((11 : Int), (x1, ()))) ∧
      ((y0 z2 (-(1 : Int)) y29 z57) ∧
      Need ((y1 z2 (-(1 : Int)) y29 z57) < (y1 z2 z3 z4 z5))))))))))))))))))))) ∧
     ((false = false) →
     ((((!false) = true) →
      (Q (.tup [(.tv [] .str (List.map (fun v63 => (((BitVec.toNat (UInt8.toBitVec v63)) : Nat) : Int)) [])), (.tv [] (.int .i64) (0 : Int)), (.op (1, 0) [])]) [((1, 0), ⟨⟨(.pair (.int .i64) (.pair (.int .i64) .unit)), (y30, (y31, ()))⟩, []⟩)])) ∧
     (((!false) = false) →
     (∃ y65 : (Int → (Int → (Int → ((List Bool) → Prop)))),
     (∃ y66 : (Int → (Int → (Int → ((List Bool) → Nat)))),
     ((y65 z3 y30 y31 z5) ∧
     (∀ z67 : Int,
     (∀ z68 : Int,
     (∀ z69 : Int,
     (∀ z70 : (List Bool),
     ((y65 z67 z68 z69 z70) →
     (Need (((-9223372036854775808 : Int) ≤ y28) ∧ (y28 ≤ (9223372036854775807 : Int))) ∧
     ((((decide (z67 ≤ y28)) = true) →
      (Need (((0 : Int) ≤ z67) ∧ (z67 < (256 : Int))) ∧
      (Need ((Int.toNat z67) < 256) ∧
      (Need (((-9223372036854775808 : Int) ≤ (z67 + (1 : Int))) ∧ ((z67 + (1 : Int)) ≤ (9223372036854775807 : Int))) ∧
      (Need (((11 : Int), (x1, ())) = ((11 : Int), (x1, ()))) ∧
      ((y65 (z67 + (1 : Int)) z68 z69 (List.set z70 (Int.toNat z67) true)) ∧
      Need ((y66 (z67 + (1 : Int)) z68 z69 (List.set z70 (Int.toNat z67) true)) < (y66 z67 z68 z69 z70)))))))) ∧
     (((decide (z67 ≤ y28)) = false) →
     (Need (((11 : Int), (x1, ())) = ((11 : Int), (x1, ()))) ∧
     ((y0 z2 (-(1 : Int)) y29 z70) ∧
     Need ((y1 z2 (-(1 : Int)) y29 z70) < (y1 z2 z3 z4 z5)))))))))))))))))))))))) ∨
    (∃ y74 : Int,
    (∃ y75 : Int,
    (Need (E 53 [(.tv [] .str x0), (.tv [] (.int .i64) (z4 + (1 : Int)))] [] (.tup [(.tv [] (.int .u8) y74), (.tv [] (.int .i64) y75), (.tv [] .ref (Option.none ))]) []) ∧
    (((true = true) →
     (Need (((-9223372036854775808 : Int) ≤ y74) ∧ (y74 ≤ (9223372036854775807 : Int))) ∧
     ((((decide (y74 < z3)) = true) →
      ((((!false) = true) →
       (Q (.tup [(.tv [] .str (List.map (fun v79 => (((BitVec.toNat (UInt8.toBitVec v79)) : Nat) : Int)) [])), (.tv [] (.int .i64) (0 : Int)), (.op (1, 0) [])]) [((1, 0), ⟨⟨(.pair (.int .i64) (.pair (.int .i64) .unit)), ((10 : Int), (z4, ()))⟩, []⟩)])) ∧
      (((!false) = false) →
      (∃ y81 : (Int → (Int → (Int → ((List Bool) → Prop)))),
      (∃ y82 : (Int → (Int → (Int → ((List Bool) → Nat)))),
      ((y81 z3 (10 : Int) z4 z5) ∧
      (∀ z83 : Int,
      (∀ z84 : Int,
      (∀ z85 : Int,
      (∀ z86 : (List Bool),
      ((y81 z83 z84 z85 z86) →
      (Need (((-9223372036854775808 : Int) ≤ y74) ∧ (y74 ≤ (9223372036854775807 : Int))) ∧
      ((((decide (z83 ≤ y74)) = true) →
       (Need (((0 : Int) ≤ z83) ∧ (z83 < (256 : Int))) ∧
       (Need ((Int.toNat z83) < 256) ∧
       (Need (((-9223372036854775808 : Int) ≤ (z83 + (1 : Int))) ∧ ((z83 + (1 : Int)) ≤ (9223372036854775807 : Int))) ∧
       (Need (((11 : Int), (x1, ())) = ((11 : Int), (x1, ()))) ∧
       ((y81 (z83 + (1 : Int)) z84 z85 (List.set z86 (Int.toNat z83) true)) ∧
       Need ((y82 (z83 + (1 : Int)) z84 z85 (List.set z86 (Int.toNat z83) true)) < (y82 z83 z84 z85 z86)))))))) ∧
      (((decide (z83 ≤ y74)) = false) →
      (Need (((11 : Int), (x1, ())) = ((11 : Int), (x1, ()))) ∧
      ((y0 z2 (-(1 : Int)) y75 z86) ∧
      Need ((y1 z2 (-(1 : Int)) y75 z86) < (y1 z2 z3 z4 z5)))))))))))))))))) ∧
     (((decide (y74 < z3)) = false) →
     ((((!true) = true) →
      (Q (.tup [(.tv [] .str (List.map (fun v92 => (((BitVec.toNat (UInt8.toBitVec v92)) : Nat) : Int)) [])), (.tv [] (.int .i64) (0 : Int)), (.tv [] .ref (Option.none ))]) [])) ∧
     (((!true) = false) →
     (∃ y94 : (Int → ((List Bool) → Prop)),
     (∃ y95 : (Int → ((List Bool) → Nat)),
     ((y94 z3 z5) ∧
     (∀ z96 : Int,
     (∀ z97 : (List Bool),
     ((y94 z96 z97) →
     (Need (((-9223372036854775808 : Int) ≤ y74) ∧ (y74 ≤ (9223372036854775807 : Int))) ∧
     ((((decide (z96 ≤ y74)) = true) →
      (Need (((0 : Int) ≤ z96) ∧ (z96 < (256 : Int))) ∧
      (Need ((Int.toNat z96) < 256) ∧
      (Need (((-9223372036854775808 : Int) ≤ (z96 + (1 : Int))) ∧ ((z96 + (1 : Int)) ≤ (9223372036854775807 : Int))) ∧
      (Need (((11 : Int), (x1, ())) = ((11 : Int), (x1, ()))) ∧
      ((y94 (z96 + (1 : Int)) (List.set z97 (Int.toNat z96) true)) ∧
      Need ((y95 (z96 + (1 : Int)) (List.set z97 (Int.toNat z96) true)) < (y95 z96 z97)))))))) ∧
     (((decide (z96 ≤ y74)) = false) →
     (Need (((11 : Int), (x1, ())) = ((11 : Int), (x1, ()))) ∧
     ((y0 z2 (-(1 : Int)) y75 z97) ∧
     Need ((y1 z2 (-(1 : Int)) y75 z97) < (y1 z2 z3 z4 z5))))))))))))))))))) ∧
    ((true = false) →
    ((((!true) = true) →
     (Q (.tup [(.tv [] .str (List.map (fun v103 => (((BitVec.toNat (UInt8.toBitVec v103)) : Nat) : Int)) [])), (.tv [] (.int .i64) (0 : Int)), (.tv [] .ref (Option.none ))]) [])) ∧
    (((!true) = false) →
    (∃ y105 : (Int → ((List Bool) → Prop)),
    (∃ y106 : (Int → ((List Bool) → Nat)),
    ((y105 z3 z5) ∧
    (∀ z107 : Int,
    (∀ z108 : (List Bool),
    ((y105 z107 z108) →
    (Need (((-9223372036854775808 : Int) ≤ y74) ∧ (y74 ≤ (9223372036854775807 : Int))) ∧
    ((((decide (z107 ≤ y74)) = true) →
     (Need (((0 : Int) ≤ z107) ∧ (z107 < (256 : Int))) ∧
     (Need ((Int.toNat z107) < 256) ∧
     (Need (((-9223372036854775808 : Int) ≤ (z107 + (1 : Int))) ∧ ((z107 + (1 : Int)) ≤ (9223372036854775807 : Int))) ∧
     (Need (((11 : Int), (x1, ())) = ((11 : Int), (x1, ()))) ∧
     ((y105 (z107 + (1 : Int)) (List.set z108 (Int.toNat z107) true)) ∧
     Need ((y106 (z107 + (1 : Int)) (List.set z108 (Int.toNat z107) true)) < (y106 z107 z108)))))))) ∧
    (((decide (z107 ≤ y74)) = false) →
    (Need (((11 : Int), (x1, ())) = ((11 : Int), (x1, ()))) ∧
    ((y0 z2 (-(1 : Int)) y75 z108) ∧
    Need ((y1 z2 (-(1 : Int)) y75 z108) < (y1 z2 z3 z4 z5)))))))))))))))))))))))))))))))))))) ∧
   (((decide ((List.getD x0 (Int.toNat z4) (0 : Int)) = (45 : Int))) = false) →
   ((∃ y113 : Int,
    (∃ y114 : Int,
    (∃ y115 : Int,
    (∃ y116 : Int,
    (Need (E 53 [(.tv [] .str x0), (.tv [] (.int .i64) z4)] [] (.tup [(.tv [] (.int .u8) y113), (.tv [] (.int .i64) y114), (.op (1, 0) [])]) [((1, 0), ⟨⟨(.pair (.int .i64) (.pair (.int .i64) .unit)), (y115, (y116, ()))⟩, []⟩)]) ∧
    ((((!false) = true) →
     (Q (.tup [(.tv [] .str (List.map (fun v118 => (((BitVec.toNat (UInt8.toBitVec v118)) : Nat) : Int)) [])), (.tv [] (.int .i64) (0 : Int)), (.op (1, 0) [])]) [((1, 0), ⟨⟨(.pair (.int .i64) (.pair (.int .i64) .unit)), (y115, (y116, ()))⟩, []⟩)])) ∧
    (((!false) = false) →
    (Need (((0 : Int) ≤ y113) ∧ (y113 < (256 : Int))) ∧
    (Need ((Int.toNat y113) < 256) ∧
    (Need (((-9223372036854775808 : Int) ≤ y113) ∧ (y113 ≤ (9223372036854775807 : Int))) ∧
    (Need (((11 : Int), (x1, ())) = ((11 : Int), (x1, ()))) ∧
    ((y0 true y113 y114 (List.set z5 (Int.toNat y113) true)) ∧
    Need ((y1 true y113 y114 (List.set z5 (Int.toNat y113) true)) < (y1 z2 z3 z4 z5)))))))))))))) ∨
   (∃ y120 : Int,
   (∃ y121 : Int,
   (Need (E 53 [(.tv [] .str x0), (.tv [] (.int .i64) z4)] [] (.tup [(.tv [] (.int .u8) y120), (.tv [] (.int .i64) y121), (.tv [] .ref (Option.none ))]) []) ∧
   ((((!true) = true) →
    (Q (.tup [(.tv [] .str (List.map (fun v123 => (((BitVec.toNat (UInt8.toBitVec v123)) : Nat) : Int)) [])), (.tv [] (.int .i64) (0 : Int)), (.tv [] .ref (Option.none ))]) [])) ∧
   (((!true) = false) →
   (Need (((0 : Int) ≤ y120) ∧ (y120 < (256 : Int))) ∧
   (Need ((Int.toNat y120) < 256) ∧
   (Need (((-9223372036854775808 : Int) ≤ y120) ∧ (y120 ≤ (9223372036854775807 : Int))) ∧
   (Need (((11 : Int), (x1, ())) = ((11 : Int), (x1, ()))) ∧
   ((y0 true y120 y121 (List.set z5 (Int.toNat y120) true)) ∧
   Need ((y1 true y120 y121 (List.set z5 (Int.toNat y120) true)) < (y1 z2 z3 z4 z5))))))))))))))))))) ∧
  (((decide ((List.getD x0 (Int.toNat z4) (0 : Int)) ≠ (10 : Int))) = false) →
  (Q (.tup [(.tv [] .str (List.map (fun v126 => (((BitVec.toNat (UInt8.toBitVec v126)) : Nat) : Int)) [])), (.tv [] (.int .i64) (0 : Int)), (.op (1, 0) [])]) [((1, 0), ⟨⟨(.pair (.int .i64) (.pair (.int .i64) .unit)), ((11 : Int), (x1, ()))⟩, []⟩)]))))) ∧
 (((decide (z4 < ((List.length x0) : Int))) = false) →
 (Q (.tup [(.tv [] .str (List.map (fun v128 => (((BitVec.toNat (UInt8.toBitVec v128)) : Nat) : Int)) [])), (.tv [] (.int .i64) (0 : Int)), (.op (1, 0) [])]) [((1, 0), ⟨⟨(.pair (.int .i64) (.pair (.int .i64) .unit)), ((11 : Int), (x1, ()))⟩, []⟩)]))))))))))))) : EvF PP orc 36 [.tv [] .str x0, .tv [] (.int .i64) x1] [] Q := vcF_ok (sg := sg) (Eq.mp (by kernel_rfl) h)
/-- tronage/lexer.next -/
theorem vc23 (x0 : List Int) (x1 : Int) (Q : AV → Heap → Prop) (h :
(Need (((0 : Int) ≤ x1) ∧ (x1 < ((List.length x0) : Int))) ∧
 ((((decide ((List.getD x0 (Int.toNat x1) (0 : Int)) = (32 : Int))) = true) →
  (Need (((-9223372036854775808 : Int) ≤ (x1 + (1 : Int))) ∧ ((x1 + (1 : Int)) ≤ (9223372036854775807 : Int))) ∧
  (Q (.tup [(.tv [] (.int .i64) (0 : Int)), (.tv [] .str (List.map (fun v1 => (((BitVec.toNat (UInt8.toBitVec v1)) : Nat) : Int)) [])), (.tv [] (.int .i64) (x1 + (1 : Int))), (.tv [] .bool false), (.tv [] .ref (Option.none ))]) []))) ∧
 (((decide ((List.getD x0 (Int.toNat x1) (0 : Int)) = (32 : Int))) = false) →
 ((((decide ((List.getD x0 (Int.toNat x1) (0 : Int)) = (9 : Int))) = true) →
  (Need (((-9223372036854775808 : Int) ≤ (x1 + (1 : Int))) ∧ ((x1 + (1 : Int)) ≤ (9223372036854775807 : Int))) ∧
  (Q (.tup [(.tv [] (.int .i64) (0 : Int)), (.tv [] .str (List.map (fun v4 => (((BitVec.toNat (UInt8.toBitVec v4)) : Nat) : Int)) [])), (.tv [] (.int .i64) (x1 + (1 : Int))), (.tv [] .bool false), (.tv [] .ref (Option.none ))]) []))) ∧
 (((decide ((List.getD x0 (Int.toNat x1) (0 : Int)) = (9 : Int))) = false) →
 ((((decide ((List.getD x0 (Int.toNat x1) (0 : Int)) = (10 : Int))) = true) →
  (Need (((-9223372036854775808 : Int) ≤ (x1 + (1 : Int))) ∧ ((x1 + (1 : Int)) ≤ (9223372036854775807 : Int))) ∧
  (Q (.tup [(.tv [] (.int .i64) (0 : Int)), (.tv [] .str (List.map (fun v7 => (((BitVec.toNat (UInt8.toBitVec v7)) : Nat) : Int)) [])), (.tv [] (.int .i64) (x1 + (1 : Int))), (.tv [] .bool false), (.tv [] .ref (Option.none ))]) []))) ∧
 (((decide ((List.getD x0 (Int.toNat x1) (0 : Int)) = (10 : Int))) = false) →
 ((((decide ((List.getD x0 (Int.toNat x1) (0 : Int)) = (13 : Int))) = true) →
  (Need (((-9223372036854775808 : Int) ≤ (x1 + (1 : Int))) ∧ ((x1 + (1 : Int)) ≤ (9223372036854775807 : Int))) ∧
  (Q (.tup [(.tv [] (.int .i64) (0 : Int)), (.tv [] .str (List.map (fun v10 => (((BitVec.toNat (UInt8.toBitVec v10)) : Nat) : Int)) [])), (.tv [] (.int .i64) (x1 + (1 : Int))), (.tv [] .bool false), (.tv [] .ref (Option.none ))]) []))) ∧
 (((decide ((List.getD x0 (Int.toNat x1) (0 : Int)) = (13 : Int))) = false) →
 ((((decide ((List.getD x0 (Int.toNat x1) (0 : Int)) = (35 : Int))) = true) →
  (Need (((0 : Int) ≤ x1) ∧ ((x1 ≤ ((List.length x0) : Int)) ∧ (((List.length x0) : Int) ≤ ((List.length x0) : Int)))) ∧
  (∃ y13 : Int,
  (Need (E 33 [(.tv [] .str (cut x0 (Int.toNat x1) (Int.toNat ((List.length x0) : Int)))), (.tv [] (.int .u8) (10 : Int))] [] (.tv [] (.int .i64) y13) []) ∧
  ((((decide (y13 < (0 : Int))) = true) →
   (Need (((-9223372036854775808 : Int) ≤ (((List.length x0) : Int) - x1)) ∧ ((((List.length x0) : Int) - x1) ≤ (9223372036854775807 : Int))) ∧
   (Need (((-9223372036854775808 : Int) ≤ (x1 + (((List.length x0) : Int) - x1))) ∧ ((x1 + (((List.length x0) : Int) - x1)) ≤ (9223372036854775807 : Int))) ∧
   (Q (.tup [(.tv [] (.int .i64) (0 : Int)), (.tv [] .str (List.map (fun v15 => (((BitVec.toNat (UInt8.toBitVec v15)) : Nat) : Int)) [])), (.tv [] (.int .i64) (x1 + (((List.length x0) : Int) - x1))), (.tv [] .bool false), (.tv [] .ref (Option.none ))]) [])))) ∧
  (((decide (y13 < (0 : Int))) = false) →
  (Need (((-9223372036854775808 : Int) ≤ (x1 + y13)) ∧ ((x1 + y13) ≤ (9223372036854775807 : Int))) ∧
  (Q (.tup [(.tv [] (.int .i64) (0 : Int)), (.tv [] .str (List.map (fun v17 => (((BitVec.toNat (UInt8.toBitVec v17)) : Nat) : Int)) [])), (.tv [] (.int .i64) (x1 + y13)), (.tv [] .bool false), (.tv [] .ref (Option.none ))]) [])))))))) ∧
 (((decide ((List.getD x0 (Int.toNat x1) (0 : Int)) = (35 : Int))) = false) →
 (∃ y19 : Bool,
 (Need (E 27 [(.tv [] (.int .u8) (List.getD x0 (Int.toNat x1) (0 : Int)))] [] (.tv [] .bool y19) []) ∧
 (((y19 = true) →
  (∃ y21 : Int,
  (Need (E 28 [(.tv [] .str x0), (.tv [] (.int .i64) x1), (.fn 29 [] [])] [] (.tv [] (.int .i64) y21) []) ∧
  ((((decide ((32 : Int) < y21)) = true) →
   (Q (.tup [(.tv [] (.int .i64) (0 : Int)), (.tv [] .str (List.map (fun v23 => (((BitVec.toNat (UInt8.toBitVec v23)) : Nat) : Int)) [])), (.tv [] (.int .i64) (0 : Int)), (.tv [] .bool false), (.op (1, 0) [])]) [((1, 0), ⟨⟨(.pair (.int .i64) (.pair (.int .i64) .unit)), ((12 : Int), (x1, ()))⟩, []⟩)])) ∧
  (((decide ((32 : Int) < y21)) = false) →
  (Need (((-9223372036854775808 : Int) ≤ (x1 + y21)) ∧ ((x1 + y21) ≤ (9223372036854775807 : Int))) ∧
  (Need (((0 : Int) ≤ x1) ∧ ((x1 ≤ (x1 + y21)) ∧ ((x1 + y21) ≤ ((List.length x0) : Int)))) ∧
  (Need (((-9223372036854775808 : Int) ≤ (x1 + y21)) ∧ ((x1 + y21) ≤ (9223372036854775807 : Int))) ∧
  (Q (.tup [(.tv [] (.int .i64) (1 : Int)), (.tv [] .str (cut x0 (Int.toNat x1) (Int.toNat (x1 + y21)))), (.tv [] (.int .i64) (x1 + y21)), (.tv [] .bool true), (.tv [] .ref (Option.none ))]) []))))))))) ∧
 ((y19 = false) →
 (Need (((0 : Int) ≤ x1) ∧ (x1 < ((List.length x0) : Int))) ∧
 ((((decide ((List.getD x0 (Int.toNat x1) (0 : Int)) = (37 : Int))) = true) →
  ((∃ y27 : (List Int),
   (∃ y28 : Int,
   (∃ y29 : Int,
   (∃ y30 : Int,
   (Need (E 34 [(.tv [] .str x0), (.tv [] (.int .i64) x1)] [] (.tup [(.tv [] .str y27), (.tv [] (.int .i64) y28), (.op (1, 0) [])]) [((1, 0), ⟨⟨(.pair (.int .i64) (.pair (.int .i64) .unit)), (y29, (y30, ()))⟩, []⟩)]) ∧
   (Q (.tup [(.tv [] (.int .i64) (2 : Int)), (.tv [] .str y27), (.tv [] (.int .i64) y28), (.tv [] .bool true), (.op (1, 0) [])]) [((1, 0), ⟨⟨(.pair (.int .i64) (.pair (.int .i64) .unit)), (y29, (y30, ()))⟩, []⟩)])))))) ∨
  (∃ y31 : (List Int),
  (∃ y32 : Int,
  (Need (E 34 [(.tv [] .str x0), (.tv [] (.int .i64) x1)] [] (.tup [(.tv [] .str y31), (.tv [] (.int .i64) y32), (.tv [] .ref (Option.none ))]) []) ∧
  (Q (.tup [(.tv [] (.int .i64) (2 : Int)), (.tv [] .str y31), (.tv [] (.int .i64) y32), (.tv [] .bool true), (.tv [] .ref (Option.none ))]) [])))))) ∧
 (((decide ((List.getD x0 (Int.toNat x1) (0 : Int)) = (37 : Int))) = false) →
 ((((decide ((List.getD x0 (Int.toNat x1) (0 : Int)) = (34 : Int))) = true) →
  ((∃ y35 : (List Int),
   (∃ y36 : Int,
   (∃ y37 : Int,
   (∃ y38 : Int,
   (Need (E 35 [(.tv [] .str x0), (.tv [] (.int .i64) x1)] [] (.tup [(.tv [] .str y35), (.tv [] (.int .i64) y36), (.op (1, 0) [])]) [((1, 0), ⟨⟨(.pair (.int .i64) (.pair (.int .i64) .unit)), (y37, (y38, ()))⟩, []⟩)]) ∧
   (Q (.tup [(.tv [] (.int .i64) (3 : Int)), (.tv [] .str y35), (.tv [] (.int .i64) y36), (.tv [] .bool true), (.op (1, 0) [])]) [((1, 0), ⟨⟨(.pair (.int .i64) (.pair (.int .i64) .unit)), (y37, (y38, ()))⟩, []⟩)])))))) ∨
  (∃ y39 : (List Int),
  (∃ y40 : Int,
  (Need (E 35 [(.tv [] .str x0), (.tv [] (.int .i64) x1)] [] (.tup [(.tv [] .str y39), (.tv [] (.int .i64) y40), (.tv [] .ref (Option.none ))]) []) ∧
  (Q (.tup [(.tv [] (.int .i64) (3 : Int)), (.tv [] .str y39), (.tv [] (.int .i64) y40), (.tv [] .bool true), (.tv [] .ref (Option.none ))]) [])))))) ∧
 (((decide ((List.getD x0 (Int.toNat x1) (0 : Int)) = (34 : Int))) = false) →
 ((((decide ((List.getD x0 (Int.toNat x1) (0 : Int)) = (91 : Int))) = true) →
  ((∃ y43 : (List Int),
   (∃ y44 : Int,
   (∃ y45 : Int,
   (∃ y46 : Int,
   (Need (E 36 [(.tv [] .str x0), (.tv [] (.int .i64) x1)] [] (.tup [(.tv [] .str y43), (.tv [] (.int .i64) y44), (.op (1, 0) [])]) [((1, 0), ⟨⟨(.pair (.int .i64) (.pair (.int .i64) .unit)), (y45, (y46, ()))⟩, []⟩)]) ∧
   (Q (.tup [(.tv [] (.int .i64) (4 : Int)), (.tv [] .str y43), (.tv [] (.int .i64) y44), (.tv [] .bool true), (.op (1, 0) [])]) [((1, 0), ⟨⟨(.pair (.int .i64) (.pair (.int .i64) .unit)), (y45, (y46, ()))⟩, []⟩)])))))) ∨
  (∃ y47 : (List Int),
  (∃ y48 : Int,
  (Need (E 36 [(.tv [] .str x0), (.tv [] (.int .i64) x1)] [] (.tup [(.tv [] .str y47), (.tv [] (.int .i64) y48), (.tv [] .ref (Option.none ))]) []) ∧
  (Q (.tup [(.tv [] (.int .i64) (4 : Int)), (.tv [] .str y47), (.tv [] (.int .i64) y48), (.tv [] .bool true), (.tv [] .ref (Option.none ))]) [])))))) ∧
 (((decide ((List.getD x0 (Int.toNat x1) (0 : Int)) = (91 : Int))) = false) →
 ((((decide ((List.getD x0 (Int.toNat x1) (0 : Int)) = (123 : Int))) = true) →
  ((∃ y51 : (List Int),
   (∃ y52 : Int,
   (∃ y53 : Int,
   (∃ y54 : Int,
   (Need (E 37 [(.tv [] .str x0), (.tv [] (.int .i64) x1)] [] (.tup [(.tv [] .str y51), (.tv [] (.int .i64) y52), (.op (1, 0) [])]) [((1, 0), ⟨⟨(.pair (.int .i64) (.pair (.int .i64) .unit)), (y53, (y54, ()))⟩, []⟩)]) ∧
   (Q (.tup [(.tv [] (.int .i64) (9 : Int)), (.tv [] .str y51), (.tv [] (.int .i64) y52), (.tv [] .bool true), (.op (1, 0) [])]) [((1, 0), ⟨⟨(.pair (.int .i64) (.pair (.int .i64) .unit)), (y53, (y54, ()))⟩, []⟩)])))))) ∨
  (∃ y55 : (List Int),
  (∃ y56 : Int,
  (Need (E 37 [(.tv [] .str x0), (.tv [] (.int .i64) x1)] [] (.tup [(.tv [] .str y55), (.tv [] (.int .i64) y56), (.tv [] .ref (Option.none ))]) []) ∧
  (Q (.tup [(.tv [] (.int .i64) (9 : Int)), (.tv [] .str y55), (.tv [] (.int .i64) y56), (.tv [] .bool true), (.tv [] .ref (Option.none ))]) [])))))) ∧
 (((decide ((List.getD x0 (Int.toNat x1) (0 : Int)) = (123 : Int))) = false) →
 ((((decide ((List.getD x0 (Int.toNat x1) (0 : Int)) = (43 : Int))) = true) →
  (Need (((0 : Int) ≤ x1) ∧ (x1 < ((List.length x0) : Int))) ∧
  (∃ y59 : Int,
  (Need (E 38 [(.tv [] (.int .u8) (List.getD x0 (Int.toNat x1) (0 : Int)))] [] (.tv [] (.int .i64) y59) []) ∧
  (Need (((-9223372036854775808 : Int) ≤ (x1 + (1 : Int))) ∧ ((x1 + (1 : Int)) ≤ (9223372036854775807 : Int))) ∧
  (Q (.tup [(.tv [] (.int .i64) y59), (.tv [] .str (List.map (fun v60 => (((BitVec.toNat (UInt8.toBitVec v60)) : Nat) : Int)) [])), (.tv [] (.int .i64) (x1 + (1 : Int))), (.tv [] .bool true), (.tv [] .ref (Option.none ))]) [])))))) ∧
 (((decide ((List.getD x0 (Int.toNat x1) (0 : Int)) = (43 : Int))) = false) →
 ((((decide ((List.getD x0 (Int.toNat x1) (0 : Int)) = (58 : Int))) = true) →
  (Need (((0 : Int) ≤ x1) ∧ (x1 < ((List.length x0) : Int))) ∧
  (∃ y63 : Int,
  (Need (E 38 [(.tv [] (.int .u8) (List.getD x0 (Int.toNat x1) (0 : Int)))] [] (.tv [] (.int .i64) y63) []) ∧
  (Need (((-9223372036854775808 : Int) ≤ (x1 + (1 : Int))) ∧ ((x1 + (1 : Int)) ≤ (9223372036854775807 : Int))) ∧
  (Q (.tup [(.tv [] (.int .i64) y63), (.tv [] .str (List.map (fun v64 => (((BitVec.toNat (UInt8.toBitVec v64)) : Nat) : Int)) [])), (.tv [] (.int .i64) (x1 + (1 : Int))), (.tv [] .bool true), (.tv [] .ref (Option.none ))]) [])))))) ∧
 (((decide ((List.getD x0 (Int.toNat x1) (0 : Int)) = (58 : Int))) = false) →
 ((((decide ((List.getD x0 (Int.toNat x1) (0 : Int)) = (124 : Int))) = true) →
  (Need (((0 : Int) ≤ x1) ∧ (x1 < ((List.length x0) : Int))) ∧
  (∃ y67 : Int,
  (Need (E 38 [(.tv [] (.int .u8) (List.getD x0 (Int.toNat x1) (0 : Int)))] [] (.tv [] (.int .i64) y67) []) ∧
  (Need (((-9223372036854775808 : Int) ≤ (x1 + (1 : Int))) ∧ ((x1 + (1 : Int)) ≤ (9223372036854775807 : Int))) ∧
  (Q (.tup [(.tv [] (.int .i64) y67), (.tv [] .str (List.map (fun v68 => (((BitVec.toNat (UInt8.toBitVec v68)) : Nat) : Int)) [])), (.tv [] (.int .i64) (x1 + (1 : Int))), (.tv [] .bool true), (.tv [] .ref (Option.none ))]) [])))))) ∧
 (((decide ((List.getD x0 (Int.toNat x1) (0 : Int)) = (124 : Int))) = false) →
 ((((decide ((List.getD x0 (Int.toNat x1) (0 : Int)) = (59 : Int))) = true) →
  (Need (((0 : Int) ≤ x1) ∧ (x1 < ((List.length x0) : Int))) ∧
  (∃ y71 : Int,
  (Need (E 38 [(.tv [] (.int .u8) (List.getD x0 (Int.toNat x1) (0 : Int)))] [] (.tv [] (.int .i64) y71) []) ∧
  (Need (((-9223372036854775808 : Int) ≤ (x1 + (1 : Int))) ∧ ((x1 + (1 : Int)) ≤ (9223372036854775807 : Int))) ∧
  (Q (.tup [(.tv [] (.int .i64) y71), (.tv [] .str (List.map (fun v72 => (((BitVec.toNat (UInt8.toBitVec v72)) : Nat) : Int)) [])), (.tv [] (.int .i64) (x1 + (1 : Int))), (.tv [] .bool true), (.tv [] .ref (Option.none ))]) [])))))) ∧
 (((decide ((List.getD x0 (Int.toNat x1) (0 : Int)) = (59 : Int))) = false) →
 (Q (.tup [(.tv [] (.int .i64) (0 : Int)), (.tv [] .str (List.map (fun v74 => (((BitVec.toNat (UInt8.toBitVec v74)) : Nat) : Int)) [])), (.tv [] (.int .i64) (0 : Int)), (.tv [] .bool false), (.op (1, 0) [])]) [((1, 0), ⟨⟨(.pair (.int .i64) (.pair (.int .i64) .unit)), ((10 : Int), (x1, ()))⟩, []⟩)])))))))))))))))))))))))))))))))))) : EvF PP orc 23 [.tv [] .str x0, .tv [] (.int .i64) x1] [] Q := vcF_ok (sg := sg) (Eq.mp (by kernel_rfl) h)
/-- tronage/lexer.Lex -/
theorem vc11 (x0 : List Int) (Q : AV → Heap → Prop) (h :
((((decide ((4000 : Int) < ((List.length x0) : Int))) = true) →
  (Q (.tup [(.tv [] (.slice (.pair (.int .i64) (.pair .str (.pair (.pair (.int .i64) (.pair (.int .i64) .unit)) .unit)))) []), (.tv [] (.pair (.int .i64) (.pair (.pair (.int .i64) (.pair (.int .i64) .unit)) .unit)) ((12 : Int), (((1 : Int), ((1 : Int), ())), ())))]) [])) ∧
 (((decide ((4000 : Int) < ((List.length x0) : Int))) = false) →
 (∃ y2 : ((List (Prod Int (Prod (List Int) (Prod (Prod Int (Prod Int PUnit)) PUnit)))) → (Int → (Int → (Int → (Int → Prop))))),
 (∃ y3 : ((List (Prod Int (Prod (List Int) (Prod (Prod Int (Prod Int PUnit)) PUnit)))) → (Int → (Int → (Int → (Int → Nat))))),
 ((y2 [] (0 : Int) (0 : Int) (0 : Int) (0 : Int)) ∧
 (∀ z4 : (List (Prod Int (Prod (List Int) (Prod (Prod Int (Prod Int PUnit)) PUnit)))),
 (∀ z5 : Int,
 (∀ z6 : Int,
 (∀ z7 : Int,
 (∀ z8 : Int,
 ((y2 z4 z5 z6 z7 z8) →
 ((((decide (z5 < ((List.length x0) : Int))) = true) →
  ((∃ y11 : Int,
   (∃ y12 : (List Int),
   (∃ y13 : Int,
   (∃ y14 : Bool,
   (∃ y15 : Int,
   (∃ y16 : Int,
   (Need (E 23 [(.tv [] .str x0), (.tv [] (.int .i64) z5)] [] (.tup [(.tv [] (.int .i64) y11), (.tv [] .str y12), (.tv [] (.int .i64) y13), (.tv [] .bool y14), (.op (1, 0) [])]) [((1, 0), ⟨⟨(.pair (.int .i64) (.pair (.int .i64) .unit)), (y15, (y16, ()))⟩, []⟩)]) ∧
   ((((!false) = true) →
    (∃ y18 : Int,
    (∃ y19 : Int,
    (Need (E 16 [(.tv [] .str x0), (.tv [] (.int .i64) y16)] [] (.tv [] (.pair (.int .i64) (.pair (.int .i64) .unit)) (y18, (y19, ()))) []) ∧
    (Q (.tup [(.tv [] (.slice (.pair (.int .i64) (.pair .str (.pair (.pair (.int .i64) (.pair (.int .i64) .unit)) .unit)))) []), (.tv [] (.pair (.int .i64) (.pair (.pair (.int .i64) (.pair (.int .i64) .unit)) .unit)) (y15, ((y18, (y19, ())), ())))]) []))))) ∧
   (((!false) = false) →
   (((y14 = true) →
    (∃ y22 : Int,
    (∃ y23 : Int,
    (Need (E 16 [(.tv [] .str x0), (.tv [] (.int .i64) z5)] [] (.tv [] (.pair (.int .i64) (.pair (.int .i64) .unit)) (y22, (y23, ()))) []) ∧
    (Need (((List.length z4) + (List.length [(y11, (y12, ((y22, (y23, ())), ())))])) ≤ bigN) ∧
    ((y2 (z4 ++ [(y11, (y12, ((y22, (y23, ())), ())))]) y13 z6 z7 z8) ∧
    Need ((y3 (z4 ++ [(y11, (y12, ((y22, (y23, ())), ())))]) y13 z6 z7 z8) < (y3 z4 z5 z6 z7 z8)))))))) ∧
   ((y14 = false) →
   ((y2 z4 y13 z6 z7 z8) ∧
   Need ((y3 z4 y13 z6 z7 z8) < (y3 z4 z5 z6 z7 z8)))))))))))))) ∨
  (∃ y25 : Int,
  (∃ y26 : (List Int),
  (∃ y27 : Int,
  (∃ y28 : Bool,
  (Need (E 23 [(.tv [] .str x0), (.tv [] (.int .i64) z5)] [] (.tup [(.tv [] (.int .i64) y25), (.tv [] .str y26), (.tv [] (.int .i64) y27), (.tv [] .bool y28), (.tv [] .ref (Option.none ))]) []) ∧
  ((((!true) = true) →
   False) ∧
  (((!true) = false) →
  (((y28 = true) →
   (∃ y32 : Int,
   (∃ y33 : Int,
   (Need (E 16 [(.tv [] .str x0), (.tv [] (.int .i64) z5)] [] (.tv [] (.pair (.int .i64) (.pair (.int .i64) .unit)) (y32, (y33, ()))) []) ∧
   (Need (((List.length z4) + (List.length [(y25, (y26, ((y32, (y33, ())), ())))])) ≤ bigN) ∧
   ((y2 (z4 ++ [(y25, (y26, ((y32, (y33, ())), ())))]) y27 z6 z7 z8) ∧
   Need ((y3 (z4 ++ [(y25, (y26, ((y32, (y33, ())), ())))]) y27 z6 z7 z8) < (y3 z4 z5 z6 z7 z8)))))))) ∧
  ((y28 = false) →
  ((y2 z4 y27 z6 z7 z8) ∧
  Need ((y3 z4 y27 z6 z7 z8) < (y3 z4 z5 z6 z7 z8)))))))))))))) ∧
 (((decide (z5 < ((List.length x0) : Int))) = false) →
 (∃ y36 : Int,
 (∃ y37 : Int,
 (Need (E 16 [(.tv [] .str x0), (.tv [] (.int .i64) ((List.length x0) : Int))] [] (.tv [] (.pair (.int .i64) (.pair (.int .i64) .unit)) (y36, (y37, ()))) []) ∧
 (Need (((List.length z4) + (List.length [((0 : Int), (([] : List Int), ((y36, (y37, ())), ())))])) ≤ bigN) ∧
 (Q (.tup [(.tv [] (.slice (.pair (.int .i64) (.pair .str (.pair (.pair (.int .i64) (.pair (.int .i64) .unit)) .unit)))) (z4 ++ [((0 : Int), (([] : List Int), ((y36, (y37, ())), ())))])), (.tv [] (.pair (.int .i64) (.pair (.pair (.int .i64) (.pair (.int .i64) .unit)) .unit)) ((0 : Int), (((0 : Int), ((0 : Int), ())), ())))]) []))))))))))))))))))) : EvF PP orc 11 [.tv [] .str x0] [] Q := vcF_ok (sg := sg) (Eq.mp (by kernel_rfl) h)
/-- strings.LastIndexByte -/
theorem vc26 (x0 : List Int) (x1 : Int) (Q : AV → Heap → Prop) (h :
(∃ y0 : Int,
 (Need (E 47 [(.tv [] .str x0), (.tv [] (.int .u8) x1)] [] (.tv [] (.int .i64) y0) []) ∧
 (Q (.tv [] (.int .i64) y0) [])))) : EvF PP orc 26 [.tv [] .str x0, .tv [] (.int .u8) x1] [] Q := vcF_ok (sg := sg) (Eq.mp (by kernel_rfl) h)
/-- strings.Count -/
theorem vc25 (x0 : List Int) (c : Int) (Q : AV → Heap → Prop) (h :
(Q (.tv [] (.int .i64) (Pr.cntB x0 c)) [])) : EvF PP orc 25 [.tv [] .str x0, .tv [] .str [c]] [] Q := vcF_ok (sg := sg) (Eq.mp (by kernel_rfl) h)
/-- strings.IndexByte -/
theorem vc33 (x0 : List Int) (x1 : Int) (Q : AV → Heap → Prop) (h :
(∃ y0 : Int,
 (Need (E 48 [(.tv [] .str x0), (.tv [] (.int .u8) x1)] [] (.tv [] (.int .i64) y0) []) ∧
 (Q (.tv [] (.int .i64) y0) [])))) : EvF PP orc 33 [.tv [] .str x0, .tv [] (.int .u8) x1] [] Q := vcF_ok (sg := sg) (Eq.mp (by kernel_rfl) h)
/-- slices.Contains[[]string,string] -/
theorem vc50 (x0 : List (List Int)) (x1 : List Int) (Q : AV → Heap → Prop) (h :
(∃ y0 : Int,
 (Need (E 57 [(.tv [] (.slice .str) x0), (.tv [] .str x1)] [] (.tv [] (.int .i64) y0) []) ∧
 (Q (.tv [] .bool (decide ((0 : Int) ≤ y0))) [])))) : EvF PP orc 50 [.tv [] (.slice .str) x0, .tv [] .str x1] [] Q := vcF_ok (sg := sg) (Eq.mp (by kernel_rfl) h)
/-- slices.Index[[]string,string] -/
theorem vc57 (x0 : List (List Int)) (x1 : List Int) (Q : AV → Heap → Prop) (h :
(∃ y0 : (Int → Prop),
 (∃ y1 : (Int → Nat),
 ((y0 (0 : Int)) ∧
 (∀ z2 : Int,
 ((y0 z2) →
 ((((decide (z2 < ((List.length x0) : Int))) = true) →
  (Need (((0 : Int) ≤ z2) ∧ (z2 < ((List.length x0) : Int))) ∧
  ((((decide (x1 = (List.getD x0 (Int.toNat z2) []))) = true) →
   (Q (.tv [] (.int .i64) z2) [])) ∧
  (((decide (x1 = (List.getD x0 (Int.toNat z2) []))) = false) →
  (Need (((-9223372036854775808 : Int) ≤ (z2 + (1 : Int))) ∧ ((z2 + (1 : Int)) ≤ (9223372036854775807 : Int))) ∧
  ((y0 (z2 + (1 : Int))) ∧
  Need ((y1 (z2 + (1 : Int))) < (y1 z2)))))))) ∧
 (((decide (z2 < ((List.length x0) : Int))) = false) →
 (Q (.tv [] (.int .i64) (-(1 : Int))) []))))))))) : EvF PP orc 57 [.tv [] (.slice .str) x0, .tv [] .str x1] [] Q := vcF_ok (sg := sg) (Eq.mp (by kernel_rfl) h)
/-- internal/stringslite.IndexByte -/
theorem vc48 (x0 : List Int) (x1 : Int) (Q : AV → Heap → Prop) (h :
(Q (.tv [] (.int .i64) (Pr.idxB x0 x1)) [])) : EvF PP orc 48 [.tv [] .str x0, .tv [] (.int .u8) x1] [] Q := vcF_ok (sg := sg) (Eq.mp (by kernel_rfl) h)
/-- internal/bytealg.LastIndexByteString -/
theorem vc47 (x0 : List Int) (x1 : Int) (Q : AV → Heap → Prop) (h :
(Need (((-9223372036854775808 : Int) ≤ (((List.length x0) : Int) - (1 : Int))) ∧ ((((List.length x0) : Int) - (1 : Int)) ≤ (9223372036854775807 : Int))) ∧
 (∃ y0 : (Int → Prop),
 (∃ y1 : (Int → Nat),
 ((y0 (((List.length x0) : Int) - (1 : Int))) ∧
 (∀ z2 : Int,
 ((y0 z2) →
 ((((decide ((0 : Int) ≤ z2)) = true) →
  (Need (((0 : Int) ≤ z2) ∧ (z2 < ((List.length x0) : Int))) ∧
  ((((decide ((List.getD x0 (Int.toNat z2) (0 : Int)) = x1)) = true) →
   (Q (.tv [] (.int .i64) z2) [])) ∧
  (((decide ((List.getD x0 (Int.toNat z2) (0 : Int)) = x1)) = false) →
  (Need (((-9223372036854775808 : Int) ≤ (z2 - (1 : Int))) ∧ ((z2 - (1 : Int)) ≤ (9223372036854775807 : Int))) ∧
  ((y0 (z2 - (1 : Int))) ∧
  Need ((y1 (z2 - (1 : Int))) < (y1 z2)))))))) ∧
 (((decide ((0 : Int) ≤ z2)) = false) →
 (Q (.tv [] (.int .i64) (-(1 : Int))) [])))))))))) : EvF PP orc 47 [.tv [] .str x0, .tv [] (.int .u8) x1] [] Q := vcF_ok (sg := sg) (Eq.mp (by kernel_rfl) h)
end Go.Am.L
