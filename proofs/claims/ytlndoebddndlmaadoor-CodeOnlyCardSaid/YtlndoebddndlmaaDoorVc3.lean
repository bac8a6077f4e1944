/-
  A part of the proof of a law: see the text that states it.
-/
import Derived.Test.YtlndoebddndlmaaDoorHead
set_option linter.all false
namespace Go.Am.R
open Go
set_option maxRecDepth 100000
set_option maxHeartbeats 4000000
/-- tronage/code.Bytes -/
theorem vc25 (x0 : List ((Int × (Int × Unit)))) (Q : AV → Heap → Prop) (h :
(∃ y0 : ((List Int) → (Int → Prop)),
 (∃ y1 : ((List Int) → (Int → Nat)),
 ((y0 [] (0 : Int)) ∧
 (∀ z2 : (List Int),
 (∀ z3 : Int,
 ((y0 z2 z3) →
 ((((decide (z3 < ((List.length x0) : Int))) = true) →
  (Need (((0 : Int) ≤ z3) ∧ (z3 < ((List.length x0) : Int))) ∧
  (Need (((List.length z2) + (List.length [(IntKind.wrap .u8 (max (0 : Int) (min (List.getD x0 (Int.toNat z3) ((0 : Int), ((0 : Int), ()))).1 (255 : Int))))])) ≤ bigN) ∧
  (∃ y6 : Bool,
  (Need (E 34 [(.tv [] (.int .i64) (List.getD x0 (Int.toNat z3) ((0 : Int), ((0 : Int), ()))).1)] [] (.tv [] .bool y6) []) ∧
  (((y6 = true) →
   (∃ y8 : Nat,
   (∃ y9 : Nat,
   (∃ y10 : (List Int),
   (Need (E 36 [(.tv [] (.int .u64) (IntKind.wrap .u64 (List.getD x0 (Int.toNat z3) ((0 : Int), ((0 : Int), ()))).2.1))] [] (.tv [] (.sref (.int .u8)) (Option.some ((1, 0), (y8, (0, y9))))) [((1, 0), ⟨⟨(.arr true (List.length y10) (.int .u8)), y10⟩, []⟩)]) ∧
   (Need ((y8 = (List.length y10)) ∧ ((0 + y9) ≤ (List.length y10))) ∧
   (Need (((List.length (z2 ++ [(IntKind.wrap .u8 (max (0 : Int) (min (List.getD x0 (Int.toNat z3) ((0 : Int), ((0 : Int), ()))).1 (255 : Int))))])) + (List.length (cut y10 0 (0 + y9)))) ≤ bigN) ∧
   (Need (((-9223372036854775808 : Int) ≤ (z3 + (1 : Int))) ∧ ((z3 + (1 : Int)) ≤ (9223372036854775807 : Int))) ∧
   ((y0 ((z2 ++ [(IntKind.wrap .u8 (max (0 : Int) (min (List.getD x0 (Int.toNat z3) ((0 : Int), ((0 : Int), ()))).1 (255 : Int))))]) ++ (cut y10 0 (0 + y9))) (z3 + (1 : Int))) ∧
   Need ((y1 ((z2 ++ [(IntKind.wrap .u8 (max (0 : Int) (min (List.getD x0 (Int.toNat z3) ((0 : Int), ((0 : Int), ()))).1 (255 : Int))))]) ++ (cut y10 0 (0 + y9))) (z3 + (1 : Int))) < (y1 z2 z3))))))))))) ∧
  ((y6 = false) →
  (Need (((-9223372036854775808 : Int) ≤ (z3 + (1 : Int))) ∧ ((z3 + (1 : Int)) ≤ (9223372036854775807 : Int))) ∧
  ((y0 (z2 ++ [(IntKind.wrap .u8 (max (0 : Int) (min (List.getD x0 (Int.toNat z3) ((0 : Int), ((0 : Int), ()))).1 (255 : Int))))]) (z3 + (1 : Int))) ∧
  Need ((y1 (z2 ++ [(IntKind.wrap .u8 (max (0 : Int) (min (List.getD x0 (Int.toNat z3) ((0 : Int), ((0 : Int), ()))).1 (255 : Int))))]) (z3 + (1 : Int))) < (y1 z2 z3))))))))))) ∧
 (((decide (z3 < ((List.length x0) : Int))) = false) →
 (Q (.tv [[]] (.slice (.int .u8)) z2) [])))))))))) : EvF PP orc 25 [.tv [] (.slice (.pair (.int .i64) (.pair (.int .i64) .unit))) x0] [] Q := vcF_ok (sg := sg) (Eq.mp (by kernel_rfl) h)
/-- tronage/tronageref21.Bytes -/
theorem vc26 (x0 : List ((Int × (Int × Unit)))) (Q : AV → Heap → Prop) (h :
(∃ y0 : ((List Int) → (Int → Prop)),
 (∃ y1 : ((List Int) → (Int → Nat)),
 ((y0 [] (0 : Int)) ∧
 (∀ z2 : (List Int),
 (∀ z3 : Int,
 ((y0 z2 z3) →
 ((((decide (z3 < ((List.length x0) : Int))) = true) →
  (Need (((0 : Int) ≤ z3) ∧ (z3 < ((List.length x0) : Int))) ∧
  (Need (((List.length z2) + (List.length [(IntKind.wrap .u8 (max (0 : Int) (min (List.getD x0 (Int.toNat z3) ((0 : Int), ((0 : Int), ()))).1 (255 : Int))))])) ≤ bigN) ∧
  (Need (((0 : Int) ≤ z3) ∧ (z3 < ((List.length x0) : Int))) ∧
  ((((decide ((1 : Int) ≤ (List.getD x0 (Int.toNat z3) ((0 : Int), ((0 : Int), ()))).1)) = true) →
   (Need (((0 : Int) ≤ z3) ∧ (z3 < ((List.length x0) : Int))) ∧
   ((((decide ((List.getD x0 (Int.toNat z3) ((0 : Int), ((0 : Int), ()))).1 ≤ (3 : Int))) = true) →
    (∃ y8 : ((List Int) → (Int → Prop)),
    (∃ y9 : ((List Int) → (Int → Nat)),
    ((y8 (z2 ++ [(IntKind.wrap .u8 (max (0 : Int) (min (List.getD x0 (Int.toNat z3) ((0 : Int), ((0 : Int), ()))).1 (255 : Int))))]) (7 : Int)) ∧
    (∀ z10 : (List Int),
    (∀ z11 : Int,
    ((y8 z10 z11) →
    ((((decide ((0 : Int) ≤ z11)) = true) →
     (Need (((0 : Int) ≤ z3) ∧ (z3 < ((List.length x0) : Int))) ∧
     (Need (((-9223372036854775808 : Int) ≤ ((8 : Int) * z11)) ∧ (((8 : Int) * z11) ≤ (9223372036854775807 : Int))) ∧
     (Need (¬ (((8 : Int) * z11) < (0 : Int))) ∧
     (Need (¬ ((IntKind.u64 = IntKind.u8) ∧ (¬ (((0 : Int) ≤ (IntKind.wrap .u64 (List.getD x0 (Int.toNat z3) ((0 : Int), ((0 : Int), ()))).2.1)) ∧ ((IntKind.wrap .u64 (List.getD x0 (Int.toNat z3) ((0 : Int), ((0 : Int), ()))).2.1) < (256 : Int)))))) ∧
     (Need (((List.length z10) + (List.length [(IntKind.wrap .u8 (Int.fdiv (IntKind.wrap .u64 (List.getD x0 (Int.toNat z3) ((0 : Int), ((0 : Int), ()))).2.1) ((2 : Int) ^ (min (Int.toNat ((8 : Int) * z11)) 64))))])) ≤ bigN) ∧
     (Need (((-9223372036854775808 : Int) ≤ (z11 - (1 : Int))) ∧ ((z11 - (1 : Int)) ≤ (9223372036854775807 : Int))) ∧
     ((y8 (z10 ++ [(IntKind.wrap .u8 (Int.fdiv (IntKind.wrap .u64 (List.getD x0 (Int.toNat z3) ((0 : Int), ((0 : Int), ()))).2.1) ((2 : Int) ^ (min (Int.toNat ((8 : Int) * z11)) 64))))]) (z11 - (1 : Int))) ∧
     Need ((y9 (z10 ++ [(IntKind.wrap .u8 (Int.fdiv (IntKind.wrap .u64 (List.getD x0 (Int.toNat z3) ((0 : Int), ((0 : Int), ()))).2.1) ((2 : Int) ^ (min (Int.toNat ((8 : Int) * z11)) 64))))]) (z11 - (1 : Int))) < (y9 z10 z11)))))))))) ∧
    (((decide ((0 : Int) ≤ z11)) = false) →
    (Need (((-9223372036854775808 : Int) ≤ (z3 + (1 : Int))) ∧ ((z3 + (1 : Int)) ≤ (9223372036854775807 : Int))) ∧
    ((y0 z10 (z3 + (1 : Int))) ∧
    Need ((y1 z10 (z3 + (1 : Int))) < (y1 z2 z3))))))))))))) ∧
   (((decide ((List.getD x0 (Int.toNat z3) ((0 : Int), ((0 : Int), ()))).1 ≤ (3 : Int))) = false) →
   (Need (((-9223372036854775808 : Int) ≤ (z3 + (1 : Int))) ∧ ((z3 + (1 : Int)) ≤ (9223372036854775807 : Int))) ∧
   ((y0 (z2 ++ [(IntKind.wrap .u8 (max (0 : Int) (min (List.getD x0 (Int.toNat z3) ((0 : Int), ((0 : Int), ()))).1 (255 : Int))))]) (z3 + (1 : Int))) ∧
   Need ((y1 (z2 ++ [(IntKind.wrap .u8 (max (0 : Int) (min (List.getD x0 (Int.toNat z3) ((0 : Int), ((0 : Int), ()))).1 (255 : Int))))]) (z3 + (1 : Int))) < (y1 z2 z3)))))))) ∧
  (((decide ((1 : Int) ≤ (List.getD x0 (Int.toNat z3) ((0 : Int), ((0 : Int), ()))).1)) = false) →
  (Need (((-9223372036854775808 : Int) ≤ (z3 + (1 : Int))) ∧ ((z3 + (1 : Int)) ≤ (9223372036854775807 : Int))) ∧
  ((y0 (z2 ++ [(IntKind.wrap .u8 (max (0 : Int) (min (List.getD x0 (Int.toNat z3) ((0 : Int), ((0 : Int), ()))).1 (255 : Int))))]) (z3 + (1 : Int))) ∧
  Need ((y1 (z2 ++ [(IntKind.wrap .u8 (max (0 : Int) (min (List.getD x0 (Int.toNat z3) ((0 : Int), ((0 : Int), ()))).1 (255 : Int))))]) (z3 + (1 : Int))) < (y1 z2 z3)))))))))) ∧
 (((decide (z3 < ((List.length x0) : Int))) = false) →
 (Q (.tv [[]] (.slice (.int .u8)) z2) [])))))))))) : EvF PP orc 26 [.tv [] (.slice (.pair (.int .i64) (.pair (.int .i64) .unit))) x0] [] Q := vcF_ok (sg := sg) (Eq.mp (by kernel_rfl) h)
/-- tronage/code.number -/
theorem vc35 (x0 : List (Int)) (Q : AV → Heap → Prop) (h :
(∃ y0 : (Int → (Int → Prop)),
 (∃ y1 : (Int → (Int → Nat)),
 ((y0 (0 : Int) (0 : Int)) ∧
 (∀ z2 : Int,
 (∀ z3 : Int,
 ((y0 z2 z3) →
 ((((decide (z3 < ((List.length x0) : Int))) = true) →
  (Need (((0 : Int) ≤ z3) ∧ (z3 < ((List.length x0) : Int))) ∧
  (Need (¬ ((8 : Int) < (0 : Int))) ∧
  (Need (((-9223372036854775808 : Int) ≤ (z3 + (1 : Int))) ∧ ((z3 + (1 : Int)) ≤ (9223372036854775807 : Int))) ∧
  ((y0 (IntKind.wrap .u64 (((BitVec.toNat ((BitVec.ofInt 64 (IntKind.wrap .u64 (z2 * (256 : Int)))) ||| (BitVec.ofInt 64 (IntKind.wrap .u64 (List.getD x0 (Int.toNat z3) (0 : Int)))))) : Nat) : Int)) (z3 + (1 : Int))) ∧
  Need ((y1 (IntKind.wrap .u64 (((BitVec.toNat ((BitVec.ofInt 64 (IntKind.wrap .u64 (z2 * (256 : Int)))) ||| (BitVec.ofInt 64 (IntKind.wrap .u64 (List.getD x0 (Int.toNat z3) (0 : Int)))))) : Nat) : Int)) (z3 + (1 : Int))) < (y1 z2 z3))))))) ∧
 (((decide (z3 < ((List.length x0) : Int))) = false) →
 (Q (.tv [] (.int .u64) z2) [])))))))))) : EvF PP orc 35 [.tv [] (.slice (.int .u8)) x0] [] Q := vcF_ok (sg := sg) (Eq.mp (by kernel_rfl) h)
/-- tronage/code.bytes -/
theorem vc36 (x0 : Int) (Q : AV → Heap → Prop) (h :
(Need (((8 : Int) = (8 : Int)) ∧ (((0 : Int) ≤ (8 : Int)) ∧ ((8 : Int) ≤ (65536 : Int)))) ∧
 (∃ y0 : (Int → ((List Int) → Prop)),
 (∃ y1 : (Int → ((List Int) → Nat)),
 (Need (8 = 8) ∧
 ((y0 (0 : Int) [(0 : Int), (0 : Int), (0 : Int), (0 : Int), (0 : Int), (0 : Int), (0 : Int), (0 : Int)]) ∧
 (∀ z2 : Int,
 (∀ z3 : (List Int),
 ((y0 z2 z3) →
 ((((decide (z2 < (8 : Int))) = true) →
  (Need (((-9223372036854775808 : Int) ≤ ((7 : Int) - z2)) ∧ (((7 : Int) - z2) ≤ (9223372036854775807 : Int))) ∧
  (Need (((-9223372036854775808 : Int) ≤ ((8 : Int) * z2)) ∧ (((8 : Int) * z2) ≤ (9223372036854775807 : Int))) ∧
  (Need (¬ (((8 : Int) * z2) < (0 : Int))) ∧
  (Need (¬ ((IntKind.u64 = IntKind.u8) ∧ (¬ (((0 : Int) ≤ x0) ∧ (x0 < (256 : Int)))))) ∧
  (Need (((0 : Int) ≤ ((7 : Int) - z2)) ∧ (((7 : Int) - z2) < (8 : Int))) ∧
  (Need ((List.length z3) = 8) ∧
  (Need ((0 + (Int.toNat ((7 : Int) - z2))) < (List.length z3)) ∧
  (Need (((-9223372036854775808 : Int) ≤ (z2 + (1 : Int))) ∧ ((z2 + (1 : Int)) ≤ (9223372036854775807 : Int))) ∧
  (Need ((List.length z3) = (List.length (List.set z3 (0 + (Int.toNat ((7 : Int) - z2))) (IntKind.wrap .u8 (Int.fdiv x0 ((2 : Int) ^ (min (Int.toNat ((8 : Int) * z2)) 64))))))) ∧
  ((y0 (z2 + (1 : Int)) (List.set z3 (0 + (Int.toNat ((7 : Int) - z2))) (IntKind.wrap .u8 (Int.fdiv x0 ((2 : Int) ^ (min (Int.toNat ((8 : Int) * z2)) 64)))))) ∧
  Need ((y1 (z2 + (1 : Int)) (List.set z3 (0 + (Int.toNat ((7 : Int) - z2))) (IntKind.wrap .u8 (Int.fdiv x0 ((2 : Int) ^ (min (Int.toNat ((8 : Int) * z2)) 64)))))) < (y1 z2 z3))))))))))))) ∧
 (((decide (z2 < (8 : Int))) = false) →
 (Q (.tv [] (.sref (.int .u8)) (Option.some ((1, 0), (8, (0, 8))))) [((1, 0), ⟨⟨(.arr true (List.length z3) (.int .u8)), z3⟩, []⟩)])))))))))))) : EvF PP orc 36 [.tv [] (.int .u64) x0] [] Q := vcF_ok (sg := sg) (Eq.mp (by kernel_rfl) h)
/-- tronage/code.FromBytes -/
theorem vc22 (x0 : List (Int)) (Q : AV → Heap → Prop) (h :
(∃ y0 : ((List Int) → ((List (Prod Int (Prod Int PUnit))) → Prop)),
 (∃ y1 : ((List Int) → ((List (Prod Int (Prod Int PUnit))) → Nat)),
 ((y0 x0 []) ∧
 (∀ z2 : (List Int),
 (∀ z3 : (List (Prod Int (Prod Int PUnit))),
 ((y0 z2 z3) →
 ((((decide ((0 : Int) < ((List.length z2) : Int))) = true) →
  (Need (((0 : Int) ≤ (0 : Int)) ∧ ((0 : Int) < ((List.length z2) : Int))) ∧
  (Need (((-9223372036854775808 : Int) ≤ (List.getD z2 0 (0 : Int))) ∧ ((List.getD z2 0 (0 : Int)) ≤ (9223372036854775807 : Int))) ∧
  (Need (((0 : Int) ≤ (1 : Int)) ∧ (((1 : Int) ≤ ((List.length z2) : Int)) ∧ (((List.length z2) : Int) ≤ ((List.length z2) : Int)))) ∧
  (∃ y6 : Bool,
  (Need (E 31 [(.tv [] (.int .i64) (List.getD z2 0 (0 : Int)))] [] (.tv [] .bool y6) []) ∧
  ((((!y6) = true) →
   (Q (.tup [(.tv [] (.slice (.pair (.int .i64) (.pair (.int .i64) .unit))) []), (.tv [] (.int .i64) (31 : Int))]) [])) ∧
  (((!y6) = false) →
  (∃ y9 : Bool,
  (Need (E 34 [(.tv [] (.int .i64) (List.getD z2 0 (0 : Int)))] [] (.tv [] .bool y9) []) ∧
  (((y9 = true) →
   ((((decide (((List.length (cut z2 1 (Int.toNat ((List.length z2) : Int)))) : Int) < (8 : Int))) = true) →
    (Q (.tup [(.tv [] (.slice (.pair (.int .i64) (.pair (.int .i64) .unit))) []), (.tv [] (.int .i64) (31 : Int))]) [])) ∧
   (((decide (((List.length (cut z2 1 (Int.toNat ((List.length z2) : Int)))) : Int) < (8 : Int))) = false) →
   (∃ y13 : Bool,
   (Need (E 34 [(.tv [] (.int .i64) (List.getD z2 0 (0 : Int)))] [] (.tv [] .bool y13) []) ∧
   (((y13 = true) →
    (Need (((0 : Int) ≤ (0 : Int)) ∧ (((0 : Int) ≤ (8 : Int)) ∧ ((8 : Int) ≤ ((List.length (cut z2 1 (Int.toNat ((List.length z2) : Int)))) : Int)))) ∧
    (∃ y15 : Int,
    (Need (E 35 [(.tv [] (.slice (.int .u8)) (cut (cut z2 1 (Int.toNat ((List.length z2) : Int))) 0 8))] [] (.tv [] (.int .u64) y15) []) ∧
    (Need (((0 : Int) ≤ (8 : Int)) ∧ (((8 : Int) ≤ ((List.length (cut z2 1 (Int.toNat ((List.length z2) : Int)))) : Int)) ∧ (((List.length (cut z2 1 (Int.toNat ((List.length z2) : Int)))) : Int) ≤ ((List.length (cut z2 1 (Int.toNat ((List.length z2) : Int)))) : Int)))) ∧
    (Need (((List.length z3) + (List.length [((List.getD z2 0 (0 : Int)), ((IntKind.wrap .i64 y15), ()))])) ≤ bigN) ∧
    ((y0 (cut (cut z2 1 (Int.toNat ((List.length z2) : Int))) 8 (Int.toNat ((List.length (cut z2 1 (Int.toNat ((List.length z2) : Int)))) : Int))) (z3 ++ [((List.getD z2 0 (0 : Int)), ((IntKind.wrap .i64 y15), ()))])) ∧
    Need ((y1 (cut (cut z2 1 (Int.toNat ((List.length z2) : Int))) 8 (Int.toNat ((List.length (cut z2 1 (Int.toNat ((List.length z2) : Int)))) : Int))) (z3 ++ [((List.getD z2 0 (0 : Int)), ((IntKind.wrap .i64 y15), ()))])) < (y1 z2 z3))))))))) ∧
   ((y13 = false) →
   (Need (((List.length z3) + (List.length [((List.getD z2 0 (0 : Int)), ((0 : Int), ()))])) ≤ bigN) ∧
   ((y0 (cut z2 1 (Int.toNat ((List.length z2) : Int))) (z3 ++ [((List.getD z2 0 (0 : Int)), ((0 : Int), ()))])) ∧
   Need ((y1 (cut z2 1 (Int.toNat ((List.length z2) : Int))) (z3 ++ [((List.getD z2 0 (0 : Int)), ((0 : Int), ()))])) < (y1 z2 z3))))))))))) ∧
  ((y9 = false) →
  (∃ y18 : Bool,
  (Need (E 34 [(.tv [] (.int .i64) (List.getD z2 0 (0 : Int)))] [] (.tv [] .bool y18) []) ∧
  (((y18 = true) →
   (Need (((0 : Int) ≤ (0 : Int)) ∧ (((0 : Int) ≤ (8 : Int)) ∧ ((8 : Int) ≤ ((List.length (cut z2 1 (Int.toNat ((List.length z2) : Int)))) : Int)))) ∧
   (∃ y20 : Int,
   (Need (E 35 [(.tv [] (.slice (.int .u8)) (cut (cut z2 1 (Int.toNat ((List.length z2) : Int))) 0 8))] [] (.tv [] (.int .u64) y20) []) ∧
   (Need (((0 : Int) ≤ (8 : Int)) ∧ (((8 : Int) ≤ ((List.length (cut z2 1 (Int.toNat ((List.length z2) : Int)))) : Int)) ∧ (((List.length (cut z2 1 (Int.toNat ((List.length z2) : Int)))) : Int) ≤ ((List.length (cut z2 1 (Int.toNat ((List.length z2) : Int)))) : Int)))) ∧
   (Need (((List.length z3) + (List.length [((List.getD z2 0 (0 : Int)), ((IntKind.wrap .i64 y20), ()))])) ≤ bigN) ∧
   ((y0 (cut (cut z2 1 (Int.toNat ((List.length z2) : Int))) 8 (Int.toNat ((List.length (cut z2 1 (Int.toNat ((List.length z2) : Int)))) : Int))) (z3 ++ [((List.getD z2 0 (0 : Int)), ((IntKind.wrap .i64 y20), ()))])) ∧
   Need ((y1 (cut (cut z2 1 (Int.toNat ((List.length z2) : Int))) 8 (Int.toNat ((List.length (cut z2 1 (Int.toNat ((List.length z2) : Int)))) : Int))) (z3 ++ [((List.getD z2 0 (0 : Int)), ((IntKind.wrap .i64 y20), ()))])) < (y1 z2 z3))))))))) ∧
  ((y18 = false) →
  (Need (((List.length z3) + (List.length [((List.getD z2 0 (0 : Int)), ((0 : Int), ()))])) ≤ bigN) ∧
  ((y0 (cut z2 1 (Int.toNat ((List.length z2) : Int))) (z3 ++ [((List.getD z2 0 (0 : Int)), ((0 : Int), ()))])) ∧
  Need ((y1 (cut z2 1 (Int.toNat ((List.length z2) : Int))) (z3 ++ [((List.getD z2 0 (0 : Int)), ((0 : Int), ()))])) < (y1 z2 z3)))))))))))))))))))) ∧
 (((decide ((0 : Int) < ((List.length z2) : Int))) = false) →
 (Q (.tup [(.tv [] (.slice (.pair (.int .i64) (.pair (.int .i64) .unit))) z3), (.tv [] (.int .i64) (0 : Int))]) [])))))))))) : EvF PP orc 22 [.tv [] (.slice (.int .u8)) x0] [] Q := vcF_ok (sg := sg) (Eq.mp (by kernel_rfl) h)
/-- tronage/tronageref21.FromBytes -/
theorem vc23 (x0 : List (Int)) (Q : AV → Heap → Prop) (h :
(∃ y0 : ((List (Prod Int (Prod Int PUnit))) → (Int → Prop)),
 (∃ y1 : ((List (Prod Int (Prod Int PUnit))) → (Int → Nat)),
 ((y0 [] (0 : Int)) ∧
 (∀ z2 : (List (Prod Int (Prod Int PUnit))),
 (∀ z3 : Int,
 ((y0 z2 z3) →
 ((((decide (z3 < ((List.length x0) : Int))) = true) →
  (Need (((0 : Int) ≤ z3) ∧ (z3 < ((List.length x0) : Int))) ∧
  (Need (((-9223372036854775808 : Int) ≤ (List.getD x0 (Int.toNat z3) (0 : Int))) ∧ ((List.getD x0 (Int.toNat z3) (0 : Int)) ≤ (9223372036854775807 : Int))) ∧
  (Need (((-9223372036854775808 : Int) ≤ (z3 + (1 : Int))) ∧ ((z3 + (1 : Int)) ≤ (9223372036854775807 : Int))) ∧
  (∃ y6 : Int,
  (Need (E 33 [(.tv [] (.int .i64) (List.getD x0 (Int.toNat z3) (0 : Int)))] [] (.tv [] (.int .i64) y6) []) ∧
  ((((decide (y6 < (0 : Int))) = true) →
   (Q (.tup [(.tv [] (.slice (.pair (.int .i64) (.pair (.int .i64) .unit))) []), (.tv [] (.int .i64) (31 : Int))]) [])) ∧
  (((decide (y6 < (0 : Int))) = false) →
  ((((decide ((List.getD x0 (Int.toNat z3) (0 : Int)) ≤ (3 : Int))) = true) →
   (Need (((-9223372036854775808 : Int) ≤ ((z3 + (1 : Int)) + (8 : Int))) ∧ (((z3 + (1 : Int)) + (8 : Int)) ≤ (9223372036854775807 : Int))) ∧
   ((((decide (((List.length x0) : Int) < ((z3 + (1 : Int)) + (8 : Int)))) = true) →
    (Q (.tup [(.tv [] (.slice (.pair (.int .i64) (.pair (.int .i64) .unit))) []), (.tv [] (.int .i64) (31 : Int))]) [])) ∧
   (((decide (((List.length x0) : Int) < ((z3 + (1 : Int)) + (8 : Int)))) = false) →
   (∃ y12 : (Int → (Int → (Int → (Int → Prop)))),
   (∃ y13 : (Int → (Int → (Int → (Int → Nat)))),
   ((y12 (0 : Int) (0 : Int) (List.getD x0 (Int.toNat z3) (0 : Int)) (0 : Int)) ∧
   (∀ z14 : Int,
   (∀ z15 : Int,
   (∀ z16 : Int,
   (∀ z17 : Int,
   ((y12 z14 z15 z16 z17) →
   ((((decide (z15 < (8 : Int))) = true) →
    (Need (¬ ((8 : Int) < (0 : Int))) ∧
    (Need (((-9223372036854775808 : Int) ≤ ((z3 + (1 : Int)) + z15)) ∧ (((z3 + (1 : Int)) + z15) ≤ (9223372036854775807 : Int))) ∧
    (Need (((0 : Int) ≤ ((z3 + (1 : Int)) + z15)) ∧ (((z3 + (1 : Int)) + z15) < ((List.length x0) : Int))) ∧
    (Need (((-9223372036854775808 : Int) ≤ (z15 + (1 : Int))) ∧ ((z15 + (1 : Int)) ≤ (9223372036854775807 : Int))) ∧
    ((y12 (IntKind.wrap .u64 ((IntKind.wrap .u64 (z14 * (256 : Int))) + (IntKind.wrap .u64 (List.getD x0 (Int.toNat ((z3 + (1 : Int)) + z15)) (0 : Int))))) (z15 + (1 : Int)) z16 z17) ∧
    Need ((y13 (IntKind.wrap .u64 ((IntKind.wrap .u64 (z14 * (256 : Int))) + (IntKind.wrap .u64 (List.getD x0 (Int.toNat ((z3 + (1 : Int)) + z15)) (0 : Int))))) (z15 + (1 : Int)) z16 z17) < (y13 z14 z15 z16 z17)))))))) ∧
   (((decide (z15 < (8 : Int))) = false) →
   (Need (((-9223372036854775808 : Int) ≤ ((z3 + (1 : Int)) + (8 : Int))) ∧ (((z3 + (1 : Int)) + (8 : Int)) ≤ (9223372036854775807 : Int))) ∧
   (Need (((List.length z2) + (List.length [(z16, ((IntKind.wrap .i64 z14), ()))])) ≤ bigN) ∧
   ((y0 (z2 ++ [(z16, ((IntKind.wrap .i64 z14), ()))]) ((z3 + (1 : Int)) + (8 : Int))) ∧
   Need ((y1 (z2 ++ [(z16, ((IntKind.wrap .i64 z14), ()))]) ((z3 + (1 : Int)) + (8 : Int))) < (y1 z2 z3))))))))))))))))))) ∧
  (((decide ((List.getD x0 (Int.toNat z3) (0 : Int)) ≤ (3 : Int))) = false) →
  (Need (((List.length z2) + (List.length [((List.getD x0 (Int.toNat z3) (0 : Int)), ((0 : Int), ()))])) ≤ bigN) ∧
  ((y0 (z2 ++ [((List.getD x0 (Int.toNat z3) (0 : Int)), ((0 : Int), ()))]) (z3 + (1 : Int))) ∧
  Need ((y1 (z2 ++ [((List.getD x0 (Int.toNat z3) (0 : Int)), ((0 : Int), ()))]) (z3 + (1 : Int))) < (y1 z2 z3)))))))))))))) ∧
 (((decide (z3 < ((List.length x0) : Int))) = false) →
 (Q (.tup [(.tv [] (.slice (.pair (.int .i64) (.pair (.int .i64) .unit))) z2), (.tv [] (.int .i64) (0 : Int))]) [])))))))))) : EvF PP orc 23 [.tv [] (.slice (.int .u8)) x0] [] Q := vcF_ok (sg := sg) (Eq.mp (by kernel_rfl) h)
end Go.Am.R
