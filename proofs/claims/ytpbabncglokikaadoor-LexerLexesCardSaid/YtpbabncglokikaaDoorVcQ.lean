/-
  A part of the proof of a law: see the text that states it.
-/
import Derived.Test.YtpbabncglokikaaDoorHead
set_option linter.all false
namespace Go.Am.L
open Go
set_option maxRecDepth 100000
set_option maxHeartbeats 4000000
/-- tronage/tronageref05.bad -/
theorem vc39 (x0 : Int) (x1 : Int) (Q : AV → Heap → Prop) (h :
(Q (.tv [] (.pair (.int .i64) (.pair .str (.pair (.int .i64) (.pair (.int .i64) (.pair (.int .i64) .unit))))) ((0 : Int), (([] : List Int), ((0 : Int), (x0, (x1, ())))))) [])) : EvF PP orc 39 [.tv [] (.int .i64) x0, .tv [] (.int .i64) x1] [] Q := vcF_ok (sg := sg) (Eq.mp (by kernel_rfl) h)
/-- tronage/tronageref05.told -/
theorem vc54 (x0 : List Int) (x1 : Int) (x2 : Bool) (Q : AV → Heap → Prop) (h :
(Need (((-9223372036854775808 : Int) ≤ (x1 + (1 : Int))) ∧ ((x1 + (1 : Int)) ≤ (9223372036854775807 : Int))) ∧
 ((((decide (((List.length x0) : Int) ≤ (x1 + (1 : Int)))) = true) →
  (Q (.tup [(.tv [] (.int .u8) (0 : Int)), (.tv [] .bool false)]) [])) ∧
 (((decide (((List.length x0) : Int) ≤ (x1 + (1 : Int)))) = false) →
 (Need (((-9223372036854775808 : Int) ≤ (x1 + (1 : Int))) ∧ ((x1 + (1 : Int)) ≤ (9223372036854775807 : Int))) ∧
 (Need (((0 : Int) ≤ (x1 + (1 : Int))) ∧ ((x1 + (1 : Int)) < ((List.length x0) : Int))) ∧
 ((((decide ((List.getD x0 (Int.toNat (x1 + (1 : Int))) (0 : Int)) = (110 : Int))) = true) →
  (Q (.tup [(.tv [] (.int .u8) (10 : Int)), (.tv [] .bool true)]) [])) ∧
 (((decide ((List.getD x0 (Int.toNat (x1 + (1 : Int))) (0 : Int)) = (110 : Int))) = false) →
 ((((decide ((List.getD x0 (Int.toNat (x1 + (1 : Int))) (0 : Int)) = (116 : Int))) = true) →
  (Q (.tup [(.tv [] (.int .u8) (9 : Int)), (.tv [] .bool true)]) [])) ∧
 (((decide ((List.getD x0 (Int.toNat (x1 + (1 : Int))) (0 : Int)) = (116 : Int))) = false) →
 ((((decide ((List.getD x0 (Int.toNat (x1 + (1 : Int))) (0 : Int)) = (92 : Int))) = true) →
  (Q (.tup [(.tv [] (.int .u8) (List.getD x0 (Int.toNat (x1 + (1 : Int))) (0 : Int))), (.tv [] .bool true)]) [])) ∧
 (((decide ((List.getD x0 (Int.toNat (x1 + (1 : Int))) (0 : Int)) = (92 : Int))) = false) →
 ((((decide ((List.getD x0 (Int.toNat (x1 + (1 : Int))) (0 : Int)) = (34 : Int))) = true) →
  ((((!x2) = true) →
   (Q (.tup [(.tv [] (.int .u8) (List.getD x0 (Int.toNat (x1 + (1 : Int))) (0 : Int))), (.tv [] .bool true)]) [])) ∧
  (((!x2) = false) →
  ((((decide ((List.getD x0 (Int.toNat (x1 + (1 : Int))) (0 : Int)) = (93 : Int))) = true) →
   (((x2 = true) →
    (Q (.tup [(.tv [] (.int .u8) (List.getD x0 (Int.toNat (x1 + (1 : Int))) (0 : Int))), (.tv [] .bool true)]) [])) ∧
   ((x2 = false) →
   (Q (.tup [(.tv [] (.int .u8) (0 : Int)), (.tv [] .bool false)]) [])))) ∧
  (((decide ((List.getD x0 (Int.toNat (x1 + (1 : Int))) (0 : Int)) = (93 : Int))) = false) →
  ((((decide ((List.getD x0 (Int.toNat (x1 + (1 : Int))) (0 : Int)) = (45 : Int))) = true) →
   (((x2 = true) →
    (Q (.tup [(.tv [] (.int .u8) (List.getD x0 (Int.toNat (x1 + (1 : Int))) (0 : Int))), (.tv [] .bool true)]) [])) ∧
   ((x2 = false) →
   (Q (.tup [(.tv [] (.int .u8) (0 : Int)), (.tv [] .bool false)]) [])))) ∧
  (((decide ((List.getD x0 (Int.toNat (x1 + (1 : Int))) (0 : Int)) = (45 : Int))) = false) →
  (Q (.tup [(.tv [] (.int .u8) (0 : Int)), (.tv [] .bool false)]) [])))))))) ∧
 (((decide ((List.getD x0 (Int.toNat (x1 + (1 : Int))) (0 : Int)) = (34 : Int))) = false) →
 ((((decide ((List.getD x0 (Int.toNat (x1 + (1 : Int))) (0 : Int)) = (93 : Int))) = true) →
  (((x2 = true) →
   (Q (.tup [(.tv [] (.int .u8) (List.getD x0 (Int.toNat (x1 + (1 : Int))) (0 : Int))), (.tv [] .bool true)]) [])) ∧
  ((x2 = false) →
  (Q (.tup [(.tv [] (.int .u8) (0 : Int)), (.tv [] .bool false)]) [])))) ∧
 (((decide ((List.getD x0 (Int.toNat (x1 + (1 : Int))) (0 : Int)) = (93 : Int))) = false) →
 ((((decide ((List.getD x0 (Int.toNat (x1 + (1 : Int))) (0 : Int)) = (45 : Int))) = true) →
  (((x2 = true) →
   (Q (.tup [(.tv [] (.int .u8) (List.getD x0 (Int.toNat (x1 + (1 : Int))) (0 : Int))), (.tv [] .bool true)]) [])) ∧
  ((x2 = false) →
  (Q (.tup [(.tv [] (.int .u8) (0 : Int)), (.tv [] .bool false)]) [])))) ∧
 (((decide ((List.getD x0 (Int.toNat (x1 + (1 : Int))) (0 : Int)) = (45 : Int))) = false) →
 (Q (.tup [(.tv [] (.int .u8) (0 : Int)), (.tv [] .bool false)]) []))))))))))))))))))) : EvF PP orc 54 [.tv [] .str x0, .tv [] (.int .i64) x1, .tv [] .bool x2] [] Q := vcF_ok (sg := sg) (Eq.mp (by kernel_rfl) h)
/-- tronage/tronageref05.text -/
theorem vc41 (x0 : List Int) (x1 : Int) (Q : AV → Heap → Prop) (h :
(Need (((-9223372036854775808 : Int) ≤ (x1 + (1 : Int))) ∧ ((x1 + (1 : Int)) ≤ (9223372036854775807 : Int))) ∧
 (∃ y0 : ((List Int) → (Int → (Int → ((List Int) → (Int → (Int → (Int → Prop))))))),
 (∃ y1 : ((List Int) → (Int → (Int → ((List Int) → (Int → (Int → (Int → Nat))))))),
 ((y0 (List.map (fun v2 => (((BitVec.toNat (UInt8.toBitVec v2)) : Nat) : Int)) []) (x1 + (1 : Int)) (0 : Int) [] (0 : Int) (0 : Int) (0 : Int)) ∧
 (∀ z3 : (List Int),
 (∀ z4 : Int,
 (∀ z5 : Int,
 (∀ z6 : (List Int),
 (∀ z7 : Int,
 (∀ z8 : Int,
 (∀ z9 : Int,
 ((y0 z3 z4 z5 z6 z7 z8 z9) →
 ((((decide (z4 < ((List.length x0) : Int))) = true) →
  (Need (((0 : Int) ≤ z4) ∧ (z4 < ((List.length x0) : Int))) ∧
  ((((decide ((List.getD x0 (Int.toNat z4) (0 : Int)) = (10 : Int))) = true) →
   (∃ y13 : Int,
   (∃ y14 : (List Int),
   (∃ y15 : Int,
   (∃ y16 : Int,
   (∃ y17 : Int,
   (Need (E 39 [(.tv [] (.int .i64) (11 : Int)), (.tv [] (.int .i64) x1)] [] (.tv [] (.pair (.int .i64) (.pair .str (.pair (.int .i64) (.pair (.int .i64) (.pair (.int .i64) .unit))))) (y13, (y14, (y15, (y16, (y17, ())))))) []) ∧
   (Q (.tv [] (.pair (.int .i64) (.pair .str (.pair (.int .i64) (.pair (.int .i64) (.pair (.int .i64) .unit))))) (y13, (y14, (y15, (y16, (y17, ())))))) [])))))))) ∧
  (((decide ((List.getD x0 (Int.toNat z4) (0 : Int)) = (10 : Int))) = false) →
  (Need (((0 : Int) ≤ z4) ∧ (z4 < ((List.length x0) : Int))) ∧
  ((((decide ((List.getD x0 (Int.toNat z4) (0 : Int)) = (34 : Int))) = true) →
   ((((decide (z3 = [])) = true) →
    (∃ y21 : Int,
    (∃ y22 : (List Int),
    (∃ y23 : Int,
    (∃ y24 : Int,
    (∃ y25 : Int,
    (Need (E 39 [(.tv [] (.int .i64) (10 : Int)), (.tv [] (.int .i64) x1)] [] (.tv [] (.pair (.int .i64) (.pair .str (.pair (.int .i64) (.pair (.int .i64) (.pair (.int .i64) .unit))))) (y21, (y22, (y23, (y24, (y25, ())))))) []) ∧
    (Q (.tv [] (.pair (.int .i64) (.pair .str (.pair (.int .i64) (.pair (.int .i64) (.pair (.int .i64) .unit))))) (y21, (y22, (y23, (y24, (y25, ())))))) [])))))))) ∧
   (((decide (z3 = [])) = false) →
   ((((decide ((32 : Int) < ((List.length z3) : Int))) = true) →
    (∃ y28 : Int,
    (∃ y29 : (List Int),
    (∃ y30 : Int,
    (∃ y31 : Int,
    (∃ y32 : Int,
    (Need (E 39 [(.tv [] (.int .i64) (12 : Int)), (.tv [] (.int .i64) x1)] [] (.tv [] (.pair (.int .i64) (.pair .str (.pair (.int .i64) (.pair (.int .i64) (.pair (.int .i64) .unit))))) (y28, (y29, (y30, (y31, (y32, ())))))) []) ∧
    (Q (.tv [] (.pair (.int .i64) (.pair .str (.pair (.int .i64) (.pair (.int .i64) (.pair (.int .i64) .unit))))) (y28, (y29, (y30, (y31, (y32, ())))))) [])))))))) ∧
   (((decide ((32 : Int) < ((List.length z3) : Int))) = false) →
   (Need (((-9223372036854775808 : Int) ≤ (z4 + (1 : Int))) ∧ ((z4 + (1 : Int)) ≤ (9223372036854775807 : Int))) ∧
   (Q (.tv [] (.pair (.int .i64) (.pair .str (.pair (.int .i64) (.pair (.int .i64) (.pair (.int .i64) .unit))))) ((3 : Int), (z3, ((z4 + (1 : Int)), ((0 : Int), ((0 : Int), ())))))) []))))))) ∧
  (((decide ((List.getD x0 (Int.toNat z4) (0 : Int)) = (34 : Int))) = false) →
  (Need (((0 : Int) ≤ z4) ∧ (z4 < ((List.length x0) : Int))) ∧
  ((((decide ((List.getD x0 (Int.toNat z4) (0 : Int)) = (92 : Int))) = true) →
   (∃ y36 : Int,
   (∃ y37 : Bool,
   (Need (E 54 [(.tv [] .str x0), (.tv [] (.int .i64) z4), (.tv [] .bool false)] [] (.tup [(.tv [] (.int .u8) y36), (.tv [] .bool y37)]) []) ∧
   ((((!y37) = true) →
    (∃ y39 : Int,
    (∃ y40 : (List Int),
    (∃ y41 : Int,
    (∃ y42 : Int,
    (∃ y43 : Int,
    (Need (E 39 [(.tv [] (.int .i64) (10 : Int)), (.tv [] (.int .i64) z4)] [] (.tv [] (.pair (.int .i64) (.pair .str (.pair (.int .i64) (.pair (.int .i64) (.pair (.int .i64) .unit))))) (y39, (y40, (y41, (y42, (y43, ())))))) []) ∧
    (Q (.tv [] (.pair (.int .i64) (.pair .str (.pair (.int .i64) (.pair (.int .i64) (.pair (.int .i64) .unit))))) (y39, (y40, (y41, (y42, (y43, ())))))) [])))))))) ∧
   (((!y37) = false) →
   (Need (((List.length z3) + (List.length [y36])) ≤ bigN) ∧
   (Need (((-9223372036854775808 : Int) ≤ (z4 + (2 : Int))) ∧ ((z4 + (2 : Int)) ≤ (9223372036854775807 : Int))) ∧
   ((y0 (z3 ++ [y36]) (z4 + (2 : Int)) z5 z6 z7 z8 z9) ∧
   Need ((y1 (z3 ++ [y36]) (z4 + (2 : Int)) z5 z6 z7 z8 z9) < (y1 z3 z4 z5 z6 z7 z8 z9))))))))))) ∧
  (((decide ((List.getD x0 (Int.toNat z4) (0 : Int)) = (92 : Int))) = false) →
  (Need (((-9223372036854775808 : Int) ≤ (z4 + (1 : Int))) ∧ ((z4 + (1 : Int)) ≤ (9223372036854775807 : Int))) ∧
  (Need (((0 : Int) ≤ z4) ∧ ((z4 ≤ (z4 + (1 : Int))) ∧ ((z4 + (1 : Int)) ≤ ((List.length x0) : Int)))) ∧
  (Need (((List.length z3) + (List.length (cut x0 (Int.toNat z4) (Int.toNat (z4 + (1 : Int)))))) ≤ bigN) ∧
  (Need (((-9223372036854775808 : Int) ≤ (z4 + (1 : Int))) ∧ ((z4 + (1 : Int)) ≤ (9223372036854775807 : Int))) ∧
  ((y0 (z3 ++ (cut x0 (Int.toNat z4) (Int.toNat (z4 + (1 : Int))))) (z4 + (1 : Int)) z5 z6 z7 z8 z9) ∧
  Need ((y1 (z3 ++ (cut x0 (Int.toNat z4) (Int.toNat (z4 + (1 : Int))))) (z4 + (1 : Int)) z5 z6 z7 z8 z9) < (y1 z3 z4 z5 z6 z7 z8 z9))))))))))))))))) ∧
 (((decide (z4 < ((List.length x0) : Int))) = false) →
 (∃ y47 : Int,
 (∃ y48 : (List Int),
 (∃ y49 : Int,
 (∃ y50 : Int,
 (∃ y51 : Int,
 (Need (E 39 [(.tv [] (.int .i64) (11 : Int)), (.tv [] (.int .i64) x1)] [] (.tv [] (.pair (.int .i64) (.pair .str (.pair (.int .i64) (.pair (.int .i64) (.pair (.int .i64) .unit))))) (y47, (y48, (y49, (y50, (y51, ())))))) []) ∧
 (Q (.tv [] (.pair (.int .i64) (.pair .str (.pair (.int .i64) (.pair (.int .i64) (.pair (.int .i64) .unit))))) (y47, (y48, (y49, (y50, (y51, ())))))) [])))))))))))))))))))))) : EvF PP orc 41 [.tv [] .str x0, .tv [] (.int .i64) x1] [] Q := vcF_ok (sg := sg) (Eq.mp (by kernel_rfl) h)
/-- tronage/tronageref05.class -/
theorem vc42 (x0 : List Int) (x1 : Int) (Q : AV → Heap → Prop) (h :
(Need (((256 : Int) = (256 : Int)) ∧ (((0 : Int) ≤ (256 : Int)) ∧ ((256 : Int) ≤ (65536 : Int)))) ∧
 (Need (((-9223372036854775808 : Int) ≤ (x1 + (1 : Int))) ∧ ((x1 + (1 : Int)) ≤ (9223372036854775807 : Int))) ∧
 (∃ y0 : (Bool → (Int → (Int → (Int → ((List Bool) → (Int → ((List Int) → (Int → (Int → (Int → Prop)))))))))),
 (∃ y1 : (Bool → (Int → (Int → (Int → ((List Bool) → (Int → ((List Int) → (Int → (Int → (Int → Nat)))))))))),
 (Need (256 = 256) ∧
 ((y0 false (-(1 : Int)) (x1 + (1 : Int)) ((0 : Nat) : Int) (List.replicate 256 false) (0 : Int) [] (0 : Int) (0 : Int) (0 : Int)) ∧
 (∀ z2 : Bool,
 (∀ z3 : Int,
 (∀ z4 : Int,
 (∀ z5 : Int,
 (∀ z6 : (List Bool),
 (∀ z7 : Int,
 (∀ z8 : (List Int),
 (∀ z9 : Int,
 (∀ z10 : Int,
 (∀ z11 : Int,
 ((y0 z2 z3 z4 z5 z6 z7 z8 z9 z10 z11) →
 ((((decide (z4 < ((List.length x0) : Int))) = true) →
  (Need (((0 : Int) ≤ z4) ∧ (z4 < ((List.length x0) : Int))) ∧
  ((((decide ((List.getD x0 (Int.toNat z4) (0 : Int)) ≠ (10 : Int))) = true) →
   (Need (((0 : Int) ≤ z4) ∧ (z4 < ((List.length x0) : Int))) ∧
   ((((decide ((List.getD x0 (Int.toNat z4) (0 : Int)) = (93 : Int))) = true) →
    ((((!z2) = true) →
     (∃ y17 : Int,
     (∃ y18 : (List Int),
     (∃ y19 : Int,
     (∃ y20 : Int,
     (∃ y21 : Int,
     (Need (E 39 [(.tv [] (.int .i64) (10 : Int)), (.tv [] (.int .i64) x1)] [] (.tv [] (.pair (.int .i64) (.pair .str (.pair (.int .i64) (.pair (.int .i64) (.pair (.int .i64) .unit))))) (y17, (y18, (y19, (y20, (y21, ())))))) []) ∧
     (Q (.tv [] (.pair (.int .i64) (.pair .str (.pair (.int .i64) (.pair (.int .i64) (.pair (.int .i64) .unit))))) (y17, (y18, (y19, (y20, (y21, ())))))) [])))))))) ∧
    (((!z2) = false) →
    (∃ y23 : ((List Int) → (Int → (Int → ((List Bool) → (Int → ((List Int) → (Int → (Int → (Int → Prop))))))))),
    (∃ y24 : ((List Int) → (Int → (Int → ((List Bool) → (Int → ((List Int) → (Int → (Int → (Int → Nat))))))))),
    (Need ((List.length z6) = (List.length z6)) ∧
    ((y23 (List.map (fun v25 => (((BitVec.toNat (UInt8.toBitVec v25)) : Nat) : Int)) []) (0 : Int) ((Int.toNat z5) : Int) z6 z7 z8 z9 z10 z11) ∧
    (∀ z26 : (List Int),
    (∀ z27 : Int,
    (∀ z28 : Int,
    (∀ z29 : (List Bool),
    (∀ z30 : Int,
    (∀ z31 : (List Int),
    (∀ z32 : Int,
    (∀ z33 : Int,
    (∀ z34 : Int,
    ((y23 z26 z27 z28 z29 z30 z31 z32 z33 z34) →
    ((((decide (z27 < (256 : Int))) = true) →
     (Need (((0 : Int) ≤ z27) ∧ (z27 < (256 : Int))) ∧
     (Need ((Int.toNat z28) = 0) ∧
     (Need ((0 + (Int.toNat z27)) < (List.length z29)) ∧
     ((((List.getD z29 (0 + (Int.toNat z27)) false) = true) →
      (Need (((0 : Int) ≤ z27) ∧ (z27 ≤ (255 : Int))) ∧
      (Need (((List.length z26) + (List.length [z27])) ≤ bigN) ∧
      (Need (((-9223372036854775808 : Int) ≤ (z27 + (1 : Int))) ∧ ((z27 + (1 : Int)) ≤ (9223372036854775807 : Int))) ∧
      (Need ((List.length z29) = (List.length z29)) ∧
      ((y23 (z26 ++ [z27]) (z27 + (1 : Int)) ((Int.toNat z28) : Int) z29 z30 z31 z32 z33 z34) ∧
      Need ((y24 (z26 ++ [z27]) (z27 + (1 : Int)) ((Int.toNat z28) : Int) z29 z30 z31 z32 z33 z34) < (y24 z26 z27 z28 z29 z30 z31 z32 z33 z34)))))))) ∧
     (((List.getD z29 (0 + (Int.toNat z27)) false) = false) →
     (Need (((-9223372036854775808 : Int) ≤ (z27 + (1 : Int))) ∧ ((z27 + (1 : Int)) ≤ (9223372036854775807 : Int))) ∧
     (Need ((List.length z29) = (List.length z29)) ∧
     ((y23 z26 (z27 + (1 : Int)) ((Int.toNat z28) : Int) z29 z30 z31 z32 z33 z34) ∧
     Need ((y24 z26 (z27 + (1 : Int)) ((Int.toNat z28) : Int) z29 z30 z31 z32 z33 z34) < (y24 z26 z27 z28 z29 z30 z31 z32 z33 z34))))))))))) ∧
    (((decide (z27 < (256 : Int))) = false) →
    (Need (((-9223372036854775808 : Int) ≤ (z4 + (1 : Int))) ∧ ((z4 + (1 : Int)) ≤ (9223372036854775807 : Int))) ∧
    (Q (.tv [] (.pair (.int .i64) (.pair .str (.pair (.int .i64) (.pair (.int .i64) (.pair (.int .i64) .unit))))) ((4 : Int), (z26, ((z4 + (1 : Int)), ((0 : Int), ((0 : Int), ())))))) []))))))))))))))))))))) ∧
   (((decide ((List.getD x0 (Int.toNat z4) (0 : Int)) = (93 : Int))) = false) →
   (Need (((0 : Int) ≤ z4) ∧ (z4 < ((List.length x0) : Int))) ∧
   ((((decide ((List.getD x0 (Int.toNat z4) (0 : Int)) = (45 : Int))) = true) →
    ((((decide (z3 < (0 : Int))) = true) →
     (∃ y43 : Int,
     (∃ y44 : (List Int),
     (∃ y45 : Int,
     (∃ y46 : Int,
     (∃ y47 : Int,
     (Need (E 39 [(.tv [] (.int .i64) (10 : Int)), (.tv [] (.int .i64) z4)] [] (.tv [] (.pair (.int .i64) (.pair .str (.pair (.int .i64) (.pair (.int .i64) (.pair (.int .i64) .unit))))) (y43, (y44, (y45, (y46, (y47, ())))))) []) ∧
     (Q (.tv [] (.pair (.int .i64) (.pair .str (.pair (.int .i64) (.pair (.int .i64) (.pair (.int .i64) .unit))))) (y43, (y44, (y45, (y46, (y47, ())))))) [])))))))) ∧
    (((decide (z3 < (0 : Int))) = false) →
    (Need (((-9223372036854775808 : Int) ≤ (z4 + (1 : Int))) ∧ ((z4 + (1 : Int)) ≤ (9223372036854775807 : Int))) ∧
    ((((decide (((List.length x0) : Int) ≤ (z4 + (1 : Int)))) = true) →
     (∃ y50 : Int,
     (∃ y51 : (List Int),
     (∃ y52 : Int,
     (∃ y53 : Int,
     (∃ y54 : Int,
     (Need (E 39 [(.tv [] (.int .i64) (11 : Int)), (.tv [] (.int .i64) x1)] [] (.tv [] (.pair (.int .i64) (.pair .str (.pair (.int .i64) (.pair (.int .i64) (.pair (.int .i64) .unit))))) (y50, (y51, (y52, (y53, (y54, ())))))) []) ∧
     (Q (.tv [] (.pair (.int .i64) (.pair .str (.pair (.int .i64) (.pair (.int .i64) (.pair (.int .i64) .unit))))) (y50, (y51, (y52, (y53, (y54, ())))))) [])))))))) ∧
    (((decide (((List.length x0) : Int) ≤ (z4 + (1 : Int)))) = false) →
    (Need (((0 : Int) ≤ (z4 + (1 : Int))) ∧ ((z4 + (1 : Int)) < ((List.length x0) : Int))) ∧
    ((((decide ((List.getD x0 (Int.toNat (z4 + (1 : Int))) (0 : Int)) = (10 : Int))) = true) →
     (∃ y57 : Int,
     (∃ y58 : (List Int),
     (∃ y59 : Int,
     (∃ y60 : Int,
     (∃ y61 : Int,
     (Need (E 39 [(.tv [] (.int .i64) (11 : Int)), (.tv [] (.int .i64) x1)] [] (.tv [] (.pair (.int .i64) (.pair .str (.pair (.int .i64) (.pair (.int .i64) (.pair (.int .i64) .unit))))) (y57, (y58, (y59, (y60, (y61, ())))))) []) ∧
     (Q (.tv [] (.pair (.int .i64) (.pair .str (.pair (.int .i64) (.pair (.int .i64) (.pair (.int .i64) .unit))))) (y57, (y58, (y59, (y60, (y61, ())))))) [])))))))) ∧
    (((decide ((List.getD x0 (Int.toNat (z4 + (1 : Int))) (0 : Int)) = (10 : Int))) = false) →
    (Need (((0 : Int) ≤ (z4 + (1 : Int))) ∧ ((z4 + (1 : Int)) < ((List.length x0) : Int))) ∧
    ((((decide ((List.getD x0 (Int.toNat (z4 + (1 : Int))) (0 : Int)) = (93 : Int))) = true) →
     (∃ y64 : Int,
     (∃ y65 : (List Int),
     (∃ y66 : Int,
     (∃ y67 : Int,
     (∃ y68 : Int,
     (Need (E 39 [(.tv [] (.int .i64) (10 : Int)), (.tv [] (.int .i64) z4)] [] (.tv [] (.pair (.int .i64) (.pair .str (.pair (.int .i64) (.pair (.int .i64) (.pair (.int .i64) .unit))))) (y64, (y65, (y66, (y67, (y68, ())))))) []) ∧
     (Q (.tv [] (.pair (.int .i64) (.pair .str (.pair (.int .i64) (.pair (.int .i64) (.pair (.int .i64) .unit))))) (y64, (y65, (y66, (y67, (y68, ())))))) [])))))))) ∧
    (((decide ((List.getD x0 (Int.toNat (z4 + (1 : Int))) (0 : Int)) = (93 : Int))) = false) →
    (Need (((0 : Int) ≤ (z4 + (1 : Int))) ∧ ((z4 + (1 : Int)) < ((List.length x0) : Int))) ∧
    (Need (((-9223372036854775808 : Int) ≤ ((z4 + (1 : Int)) + (1 : Int))) ∧ (((z4 + (1 : Int)) + (1 : Int)) ≤ (9223372036854775807 : Int))) ∧
    ((((decide ((List.getD x0 (Int.toNat (z4 + (1 : Int))) (0 : Int)) = (92 : Int))) = true) →
     (∃ y71 : Int,
     (∃ y72 : Bool,
     (Need (E 54 [(.tv [] .str x0), (.tv [] (.int .i64) (z4 + (1 : Int))), (.tv [] .bool true)] [] (.tup [(.tv [] (.int .u8) y71), (.tv [] .bool y72)]) []) ∧
     ((((!y72) = true) →
      (∃ y74 : Int,
      (∃ y75 : (List Int),
      (∃ y76 : Int,
      (∃ y77 : Int,
      (∃ y78 : Int,
      (Need (E 39 [(.tv [] (.int .i64) (10 : Int)), (.tv [] (.int .i64) (z4 + (1 : Int)))] [] (.tv [] (.pair (.int .i64) (.pair .str (.pair (.int .i64) (.pair (.int .i64) (.pair (.int .i64) .unit))))) (y74, (y75, (y76, (y77, (y78, ())))))) []) ∧
      (Q (.tv [] (.pair (.int .i64) (.pair .str (.pair (.int .i64) (.pair (.int .i64) (.pair (.int .i64) .unit))))) (y74, (y75, (y76, (y77, (y78, ())))))) [])))))))) ∧
     (((!y72) = false) →
     (Need (((-9223372036854775808 : Int) ≤ ((z4 + (1 : Int)) + (2 : Int))) ∧ (((z4 + (1 : Int)) + (2 : Int)) ≤ (9223372036854775807 : Int))) ∧
     ((((decide ((List.getD x0 (Int.toNat z4) (0 : Int)) = (45 : Int))) = true) →
      (Need (((-9223372036854775808 : Int) ≤ y71) ∧ (y71 ≤ (9223372036854775807 : Int))) ∧
      ((((decide (y71 < z3)) = true) →
       (∃ y82 : Int,
       (∃ y83 : (List Int),
       (∃ y84 : Int,
       (∃ y85 : Int,
       (∃ y86 : Int,
       (Need (E 39 [(.tv [] (.int .i64) (10 : Int)), (.tv [] (.int .i64) z4)] [] (.tv [] (.pair (.int .i64) (.pair .str (.pair (.int .i64) (.pair (.int .i64) (.pair (.int .i64) .unit))))) (y82, (y83, (y84, (y85, (y86, ())))))) []) ∧
       (Q (.tv [] (.pair (.int .i64) (.pair .str (.pair (.int .i64) (.pair (.int .i64) (.pair (.int .i64) .unit))))) (y82, (y83, (y84, (y85, (y86, ())))))) [])))))))) ∧
      (((decide (y71 < z3)) = false) →
      ((((decide ((List.getD x0 (Int.toNat z4) (0 : Int)) = (45 : Int))) = true) →
       (∃ y89 : (Int → (Int → ((List Bool) → (Int → ((List Int) → (Int → (Int → (Int → Prop)))))))),
       (∃ y90 : (Int → (Int → ((List Bool) → (Int → ((List Int) → (Int → (Int → (Int → Nat)))))))),
       (Need ((List.length z6) = (List.length z6)) ∧
       ((y89 z3 ((Int.toNat z5) : Int) z6 z7 z8 z9 z10 z11) ∧
       (∀ z91 : Int,
       (∀ z92 : Int,
       (∀ z93 : (List Bool),
       (∀ z94 : Int,
       (∀ z95 : (List Int),
       (∀ z96 : Int,
       (∀ z97 : Int,
       (∀ z98 : Int,
       ((y89 z91 z92 z93 z94 z95 z96 z97 z98) →
       (Need (((-9223372036854775808 : Int) ≤ y71) ∧ (y71 ≤ (9223372036854775807 : Int))) ∧
       ((((decide (z91 ≤ y71)) = true) →
        (Need (((0 : Int) ≤ z91) ∧ (z91 < (256 : Int))) ∧
        (Need ((Int.toNat z92) = 0) ∧
        (Need ((0 + (Int.toNat z91)) < (List.length z93)) ∧
        (Need (((-9223372036854775808 : Int) ≤ (z91 + (1 : Int))) ∧ ((z91 + (1 : Int)) ≤ (9223372036854775807 : Int))) ∧
        (Need ((List.length z93) = (List.length (List.set z93 (0 + (Int.toNat z91)) true))) ∧
        ((y89 (z91 + (1 : Int)) ((Int.toNat z92) : Int) (List.set z93 (0 + (Int.toNat z91)) true) z94 z95 z96 z97 z98) ∧
        Need ((y90 (z91 + (1 : Int)) ((Int.toNat z92) : Int) (List.set z93 (0 + (Int.toNat z91)) true) z94 z95 z96 z97 z98) < (y90 z91 z92 z93 z94 z95 z96 z97 z98))))))))) ∧
       (((decide (z91 ≤ y71)) = false) →
       (Need ((List.length z93) = (List.length z93)) ∧
       ((y0 z2 (-(1 : Int)) ((z4 + (1 : Int)) + (2 : Int)) ((Int.toNat z92) : Int) z93 z94 z95 z96 z97 z98) ∧
       Need ((y1 z2 (-(1 : Int)) ((z4 + (1 : Int)) + (2 : Int)) ((Int.toNat z92) : Int) z93 z94 z95 z96 z97 z98) < (y1 z2 z3 z4 z5 z6 z7 z8 z9 z10 z11))))))))))))))))))))) ∧
      (((decide ((List.getD x0 (Int.toNat z4) (0 : Int)) = (45 : Int))) = false) →
      (Need (((0 : Int) ≤ y71) ∧ (y71 < (256 : Int))) ∧
      (Need ((Int.toNat z5) = 0) ∧
      (Need ((0 + (Int.toNat y71)) < (List.length z6)) ∧
      (Need (((-9223372036854775808 : Int) ≤ y71) ∧ (y71 ≤ (9223372036854775807 : Int))) ∧
      (Need ((List.length z6) = (List.length (List.set z6 (0 + (Int.toNat y71)) true))) ∧
      ((y0 true y71 ((z4 + (1 : Int)) + (2 : Int)) ((Int.toNat z5) : Int) (List.set z6 (0 + (Int.toNat y71)) true) z7 z8 z9 z10 z11) ∧
      Need ((y1 true y71 ((z4 + (1 : Int)) + (2 : Int)) ((Int.toNat z5) : Int) (List.set z6 (0 + (Int.toNat y71)) true) z7 z8 z9 z10 z11) < (y1 z2 z3 z4 z5 z6 z7 z8 z9 z10 z11)))))))))))))) ∧
     (((decide ((List.getD x0 (Int.toNat z4) (0 : Int)) = (45 : Int))) = false) →
     ((((decide ((List.getD x0 (Int.toNat z4) (0 : Int)) = (45 : Int))) = true) →
      (∃ y105 : (Int → (Int → ((List Bool) → (Int → ((List Int) → (Int → (Int → (Int → Prop)))))))),
      (∃ y106 : (Int → (Int → ((List Bool) → (Int → ((List Int) → (Int → (Int → (Int → Nat)))))))),
      (Need ((List.length z6) = (List.length z6)) ∧
      ((y105 z3 ((Int.toNat z5) : Int) z6 z7 z8 z9 z10 z11) ∧
      (∀ z107 : Int,
      (∀ z108 : Int,
      (∀ z109 : (List Bool),
      (∀ z110 : Int,
      (∀ z111 : (List Int),
      (∀ z112 : Int,
      (∀ z113 : Int,
      (∀ z114 : Int,
      ((y105 z107 z108 z109 z110 z111 z112 z113 z114) →
      (Need (((-9223372036854775808 : Int) ≤ y71) ∧ (y71 ≤ (9223372036854775807 : Int))) ∧
      ((((decide (z107 ≤ y71)) = true) →
       (Need (((0 : Int) ≤ z107) ∧ (z107 < (256 : Int))) ∧
       (Need ((Int.toNat z108) = 0) ∧
       (Need ((0 + (Int.toNat z107)) < (List.length z109)) ∧
       (Need (((-9223372036854775808 : Int) ≤ (z107 + (1 : Int))) ∧ ((z107 + (1 : Int)) ≤ (9223372036854775807 : Int))) ∧
       (Need ((List.length z109) = (List.length (List.set z109 (0 + (Int.toNat z107)) true))) ∧
       ((y105 (z107 + (1 : Int)) ((Int.toNat z108) : Int) (List.set z109 (0 + (Int.toNat z107)) true) z110 z111 z112 z113 z114) ∧
       Need ((y106 (z107 + (1 : Int)) ((Int.toNat z108) : Int) (List.set z109 (0 + (Int.toNat z107)) true) z110 z111 z112 z113 z114) < (y106 z107 z108 z109 z110 z111 z112 z113 z114))))))))) ∧
      (((decide (z107 ≤ y71)) = false) →
      (Need ((List.length z109) = (List.length z109)) ∧
      ((y0 z2 (-(1 : Int)) ((z4 + (1 : Int)) + (2 : Int)) ((Int.toNat z108) : Int) z109 z110 z111 z112 z113 z114) ∧
      Need ((y1 z2 (-(1 : Int)) ((z4 + (1 : Int)) + (2 : Int)) ((Int.toNat z108) : Int) z109 z110 z111 z112 z113 z114) < (y1 z2 z3 z4 z5 z6 z7 z8 z9 z10 z11))))))))))))))))))))) ∧
     (((decide ((List.getD x0 (Int.toNat z4) (0 : Int)) = (45 : Int))) = false) →
     (Need (((0 : Int) ≤ y71) ∧ (y71 < (256 : Int))) ∧
     (Need ((Int.toNat z5) = 0) ∧
     (Need ((0 + (Int.toNat y71)) < (List.length z6)) ∧
     (Need (((-9223372036854775808 : Int) ≤ y71) ∧ (y71 ≤ (9223372036854775807 : Int))) ∧
     (Need ((List.length z6) = (List.length (List.set z6 (0 + (Int.toNat y71)) true))) ∧
     ((y0 true y71 ((z4 + (1 : Int)) + (2 : Int)) ((Int.toNat z5) : Int) (List.set z6 (0 + (Int.toNat y71)) true) z7 z8 z9 z10 z11) ∧
     Need ((y1 true y71 ((z4 + (1 : Int)) + (2 : Int)) ((Int.toNat z5) : Int) (List.set z6 (0 + (Int.toNat y71)) true) z7 z8 z9 z10 z11) < (y1 z2 z3 z4 z5 z6 z7 z8 z9 z10 z11))))))))))))))))))) ∧
    (((decide ((List.getD x0 (Int.toNat (z4 + (1 : Int))) (0 : Int)) = (92 : Int))) = false) →
    ((((decide ((List.getD x0 (Int.toNat z4) (0 : Int)) = (45 : Int))) = true) →
     (Need (((-9223372036854775808 : Int) ≤ (List.getD x0 (Int.toNat (z4 + (1 : Int))) (0 : Int))) ∧ ((List.getD x0 (Int.toNat (z4 + (1 : Int))) (0 : Int)) ≤ (9223372036854775807 : Int))) ∧
     ((((decide ((List.getD x0 (Int.toNat (z4 + (1 : Int))) (0 : Int)) < z3)) = true) →
      (∃ y122 : Int,
      (∃ y123 : (List Int),
      (∃ y124 : Int,
      (∃ y125 : Int,
      (∃ y126 : Int,
      (Need (E 39 [(.tv [] (.int .i64) (10 : Int)), (.tv [] (.int .i64) z4)] [] (.tv [] (.pair (.int .i64) (.pair .str (.pair (.int .i64) (.pair (.int .i64) (.pair (.int .i64) .unit))))) (y122, (y123, (y124, (y125, (y126, ())))))) []) ∧
      (Q (.tv [] (.pair (.int .i64) (.pair .str (.pair (.int .i64) (.pair (.int .i64) (.pair (.int .i64) .unit))))) (y122, (y123, (y124, (y125, (y126, ())))))) [])))))))) ∧
     (((decide ((List.getD x0 (Int.toNat (z4 + (1 : Int))) (0 : Int)) < z3)) = false) →
     ((((decide ((List.getD x0 (Int.toNat z4) (0 : Int)) = (45 : Int))) = true) →
      (∃ y129 : (Int → (Int → ((List Bool) → (Int → ((List Int) → (Int → (Int → (Int → Prop)))))))),
      (∃ y130 : (Int → (Int → ((List Bool) → (Int → ((List Int) → (Int → (Int → (Int → Nat)))))))),
      (Need ((List.length z6) = (List.length z6)) ∧
      ((y129 z3 ((Int.toNat z5) : Int) z6 z7 z8 z9 z10 z11) ∧
      (∀ z131 : Int,
      (∀ z132 : Int,
      (∀ z133 : (List Bool),
      (∀ z134 : Int,
      (∀ z135 : (List Int),
      (∀ z136 : Int,
      (∀ z137 : Int,
      (∀ z138 : Int,
      ((y129 z131 z132 z133 z134 z135 z136 z137 z138) →
      (Need (((-9223372036854775808 : Int) ≤ (List.getD x0 (Int.toNat (z4 + (1 : Int))) (0 : Int))) ∧ ((List.getD x0 (Int.toNat (z4 + (1 : Int))) (0 : Int)) ≤ (9223372036854775807 : Int))) ∧
      ((((decide (z131 ≤ (List.getD x0 (Int.toNat (z4 + (1 : Int))) (0 : Int)))) = true) →
       (Need (((0 : Int) ≤ z131) ∧ (z131 < (256 : Int))) ∧
       (Need ((Int.toNat z132) = 0) ∧
       (Need ((0 + (Int.toNat z131)) < (List.length z133)) ∧
       (Need (((-9223372036854775808 : Int) ≤ (z131 + (1 : Int))) ∧ ((z131 + (1 : Int)) ≤ (9223372036854775807 : Int))) ∧
       (Need ((List.length z133) = (List.length (List.set z133 (0 + (Int.toNat z131)) true))) ∧
       ((y129 (z131 + (1 : Int)) ((Int.toNat z132) : Int) (List.set z133 (0 + (Int.toNat z131)) true) z134 z135 z136 z137 z138) ∧
       Need ((y130 (z131 + (1 : Int)) ((Int.toNat z132) : Int) (List.set z133 (0 + (Int.toNat z131)) true) z134 z135 z136 z137 z138) < (y130 z131 z132 z133 z134 z135 z136 z137 z138))))))))) ∧
      (((decide (z131 ≤ (List.getD x0 (Int.toNat (z4 + (1 : Int))) (0 : Int)))) = false) →
      (Need ((List.length z133) = (List.length z133)) ∧
      ((y0 z2 (-(1 : Int)) ((z4 + (1 : Int)) + (1 : Int)) ((Int.toNat z132) : Int) z133 z134 z135 z136 z137 z138) ∧
      Need ((y1 z2 (-(1 : Int)) ((z4 + (1 : Int)) + (1 : Int)) ((Int.toNat z132) : Int) z133 z134 z135 z136 z137 z138) < (y1 z2 z3 z4 z5 z6 z7 z8 z9 z10 z11))))))))))))))))))))) ∧
     (((decide ((List.getD x0 (Int.toNat z4) (0 : Int)) = (45 : Int))) = false) →
     (Need (((0 : Int) ≤ (List.getD x0 (Int.toNat (z4 + (1 : Int))) (0 : Int))) ∧ ((List.getD x0 (Int.toNat (z4 + (1 : Int))) (0 : Int)) < (256 : Int))) ∧
     (Need ((Int.toNat z5) = 0) ∧
     (Need ((0 + (Int.toNat (List.getD x0 (Int.toNat (z4 + (1 : Int))) (0 : Int)))) < (List.length z6)) ∧
     (Need (((-9223372036854775808 : Int) ≤ (List.getD x0 (Int.toNat (z4 + (1 : Int))) (0 : Int))) ∧ ((List.getD x0 (Int.toNat (z4 + (1 : Int))) (0 : Int)) ≤ (9223372036854775807 : Int))) ∧
     (Need ((List.length z6) = (List.length (List.set z6 (0 + (Int.toNat (List.getD x0 (Int.toNat (z4 + (1 : Int))) (0 : Int)))) true))) ∧
     ((y0 true (List.getD x0 (Int.toNat (z4 + (1 : Int))) (0 : Int)) ((z4 + (1 : Int)) + (1 : Int)) ((Int.toNat z5) : Int) (List.set z6 (0 + (Int.toNat (List.getD x0 (Int.toNat (z4 + (1 : Int))) (0 : Int)))) true) z7 z8 z9 z10 z11) ∧
     Need ((y1 true (List.getD x0 (Int.toNat (z4 + (1 : Int))) (0 : Int)) ((z4 + (1 : Int)) + (1 : Int)) ((Int.toNat z5) : Int) (List.set z6 (0 + (Int.toNat (List.getD x0 (Int.toNat (z4 + (1 : Int))) (0 : Int)))) true) z7 z8 z9 z10 z11) < (y1 z2 z3 z4 z5 z6 z7 z8 z9 z10 z11)))))))))))))) ∧
    (((decide ((List.getD x0 (Int.toNat z4) (0 : Int)) = (45 : Int))) = false) →
    ((((decide ((List.getD x0 (Int.toNat z4) (0 : Int)) = (45 : Int))) = true) →
     (∃ y145 : (Int → (Int → ((List Bool) → (Int → ((List Int) → (Int → (Int → (Int → Prop)))))))),
     (∃ y146 : (Int → (Int → ((List Bool) → (Int → ((List Int) → (Int → (Int → (Int → Nat)))))))),
     (Need ((List.length z6) = (List.length z6)) ∧
     ((y145 z3 ((Int.toNat z5) : Int) z6 z7 z8 z9 z10 z11) ∧
     (∀ z147 : Int,
     (∀ z148 : Int,
     (∀ z149 : (List Bool),
     (∀ z150 : Int,
     (∀ z151 : (List Int),
     (∀ z152 : Int,
     (∀ z153 : Int,
     (∀ z154 : Int,
     ((y145 z147 z148 z149 z150 z151 z152 z153 z154) →
     (Need (((-9223372036854775808 : Int) ≤ (List.getD x0 (Int.toNat (z4 + (1 : Int))) (0 : Int))) ∧ ((List.getD x0 (Int.toNat (z4 + (1 : Int))) (0 : Int)) ≤ (9223372036854775807 : Int))) ∧
     ((((decide (z147 ≤ (List.getD x0 (Int.toNat (z4 + (1 : Int))) (0 : Int)))) = true) →
      (Need (((0 : Int) ≤ z147) ∧ (z147 < (256 : Int))) ∧
      (Need ((Int.toNat z148) = 0) ∧
      (Need ((0 + (Int.toNat z147)) < (List.length z149)) ∧
      (Need (((-9223372036854775808 : Int) ≤ (z147 + (1 : Int))) ∧ ((z147 + (1 : Int)) ≤ (9223372036854775807 : Int))) ∧
      (Need ((List.length z149) = (List.length (List.set z149 (0 + (Int.toNat z147)) true))) ∧
      ((y145 (z147 + (1 : Int)) ((Int.toNat z148) : Int) (List.set z149 (0 + (Int.toNat z147)) true) z150 z151 z152 z153 z154) ∧
      Need ((y146 (z147 + (1 : Int)) ((Int.toNat z148) : Int) (List.set z149 (0 + (Int.toNat z147)) true) z150 z151 z152 z153 z154) < (y146 z147 z148 z149 z150 z151 z152 z153 z154))))))))) ∧
     (((decide (z147 ≤ (List.getD x0 (Int.toNat (z4 + (1 : Int))) (0 : Int)))) = false) →
     (Need ((List.length z149) = (List.length z149)) ∧
     ((y0 z2 (-(1 : Int)) ((z4 + (1 : Int)) + (1 : Int)) ((Int.toNat z148) : Int) z149 z150 z151 z152 z153 z154) ∧
     Need ((y1 z2 (-(1 : Int)) ((z4 + (1 : Int)) + (1 : Int)) ((Int.toNat z148) : Int) z149 z150 z151 z152 z153 z154) < (y1 z2 z3 z4 z5 z6 z7 z8 z9 z10 z11))))))))))))))))))))) ∧
    (((decide ((List.getD x0 (Int.toNat z4) (0 : Int)) = (45 : Int))) = false) →
    (Need (((0 : Int) ≤ (List.getD x0 (Int.toNat (z4 + (1 : Int))) (0 : Int))) ∧ ((List.getD x0 (Int.toNat (z4 + (1 : Int))) (0 : Int)) < (256 : Int))) ∧
    (Need ((Int.toNat z5) = 0) ∧
    (Need ((0 + (Int.toNat (List.getD x0 (Int.toNat (z4 + (1 : Int))) (0 : Int)))) < (List.length z6)) ∧
    (Need (((-9223372036854775808 : Int) ≤ (List.getD x0 (Int.toNat (z4 + (1 : Int))) (0 : Int))) ∧ ((List.getD x0 (Int.toNat (z4 + (1 : Int))) (0 : Int)) ≤ (9223372036854775807 : Int))) ∧
    (Need ((List.length z6) = (List.length (List.set z6 (0 + (Int.toNat (List.getD x0 (Int.toNat (z4 + (1 : Int))) (0 : Int)))) true))) ∧
    ((y0 true (List.getD x0 (Int.toNat (z4 + (1 : Int))) (0 : Int)) ((z4 + (1 : Int)) + (1 : Int)) ((Int.toNat z5) : Int) (List.set z6 (0 + (Int.toNat (List.getD x0 (Int.toNat (z4 + (1 : Int))) (0 : Int)))) true) z7 z8 z9 z10 z11) ∧
    Need ((y1 true (List.getD x0 (Int.toNat (z4 + (1 : Int))) (0 : Int)) ((z4 + (1 : Int)) + (1 : Int)) ((Int.toNat z5) : Int) (List.set z6 (0 + (Int.toNat (List.getD x0 (Int.toNat (z4 + (1 : Int))) (0 : Int)))) true) z7 z8 z9 z10 z11) < (y1 z2 z3 z4 z5 z6 z7 z8 z9 z10 z11)))))))))))))))))))))))))))) ∧
   (((decide ((List.getD x0 (Int.toNat z4) (0 : Int)) = (45 : Int))) = false) →
   (Need (((0 : Int) ≤ z4) ∧ (z4 < ((List.length x0) : Int))) ∧
   (Need (((-9223372036854775808 : Int) ≤ (z4 + (1 : Int))) ∧ ((z4 + (1 : Int)) ≤ (9223372036854775807 : Int))) ∧
   ((((decide ((List.getD x0 (Int.toNat z4) (0 : Int)) = (92 : Int))) = true) →
    (∃ y161 : Int,
    (∃ y162 : Bool,
    (Need (E 54 [(.tv [] .str x0), (.tv [] (.int .i64) z4), (.tv [] .bool true)] [] (.tup [(.tv [] (.int .u8) y161), (.tv [] .bool y162)]) []) ∧
    ((((!y162) = true) →
     (∃ y164 : Int,
     (∃ y165 : (List Int),
     (∃ y166 : Int,
     (∃ y167 : Int,
     (∃ y168 : Int,
     (Need (E 39 [(.tv [] (.int .i64) (10 : Int)), (.tv [] (.int .i64) z4)] [] (.tv [] (.pair (.int .i64) (.pair .str (.pair (.int .i64) (.pair (.int .i64) (.pair (.int .i64) .unit))))) (y164, (y165, (y166, (y167, (y168, ())))))) []) ∧
     (Q (.tv [] (.pair (.int .i64) (.pair .str (.pair (.int .i64) (.pair (.int .i64) (.pair (.int .i64) .unit))))) (y164, (y165, (y166, (y167, (y168, ())))))) [])))))))) ∧
    (((!y162) = false) →
    (Need (((-9223372036854775808 : Int) ≤ (z4 + (2 : Int))) ∧ ((z4 + (2 : Int)) ≤ (9223372036854775807 : Int))) ∧
    ((((decide ((List.getD x0 (Int.toNat z4) (0 : Int)) = (45 : Int))) = true) →
     (Need (((-9223372036854775808 : Int) ≤ y161) ∧ (y161 ≤ (9223372036854775807 : Int))) ∧
     ((((decide (y161 < z3)) = true) →
      (∃ y172 : Int,
      (∃ y173 : (List Int),
      (∃ y174 : Int,
      (∃ y175 : Int,
      (∃ y176 : Int,
      (Need (E 39 [(.tv [] (.int .i64) (10 : Int)), (.tv [] (.int .i64) z4)] [] (.tv [] (.pair (.int .i64) (.pair .str (.pair (.int .i64) (.pair (.int .i64) (.pair (.int .i64) .unit))))) (y172, (y173, (y174, (y175, (y176, ())))))) []) ∧
      (Q (.tv [] (.pair (.int .i64) (.pair .str (.pair (.int .i64) (.pair (.int .i64) (.pair (.int .i64) .unit))))) (y172, (y173, (y174, (y175, (y176, ())))))) [])))))))) ∧
     (((decide (y161 < z3)) = false) →
     ((((decide ((List.getD x0 (Int.toNat z4) (0 : Int)) = (45 : Int))) = true) →
      (∃ y179 : (Int → (Int → ((List Bool) → (Int → ((List Int) → (Int → (Int → (Int → Prop)))))))),
      (∃ y180 : (Int → (Int → ((List Bool) → (Int → ((List Int) → (Int → (Int → (Int → Nat)))))))),
      (Need ((List.length z6) = (List.length z6)) ∧
      ((y179 z3 ((Int.toNat z5) : Int) z6 z7 z8 z9 z10 z11) ∧
      (∀ z181 : Int,
      (∀ z182 : Int,
      (∀ z183 : (List Bool),
      (∀ z184 : Int,
      (∀ z185 : (List Int),
      (∀ z186 : Int,
      (∀ z187 : Int,
      (∀ z188 : Int,
      ((y179 z181 z182 z183 z184 z185 z186 z187 z188) →
      (Need (((-9223372036854775808 : Int) ≤ y161) ∧ (y161 ≤ (9223372036854775807 : Int))) ∧
      ((((decide (z181 ≤ y161)) = true) →
       (Need (((0 : Int) ≤ z181) ∧ (z181 < (256 : Int))) ∧
       (Need ((Int.toNat z182) = 0) ∧
       (Need ((0 + (Int.toNat z181)) < (List.length z183)) ∧
       (Need (((-9223372036854775808 : Int) ≤ (z181 + (1 : Int))) ∧ ((z181 + (1 : Int)) ≤ (9223372036854775807 : Int))) ∧
       (Need ((List.length z183) = (List.length (List.set z183 (0 + (Int.toNat z181)) true))) ∧
       ((y179 (z181 + (1 : Int)) ((Int.toNat z182) : Int) (List.set z183 (0 + (Int.toNat z181)) true) z184 z185 z186 z187 z188) ∧
       Need ((y180 (z181 + (1 : Int)) ((Int.toNat z182) : Int) (List.set z183 (0 + (Int.toNat z181)) true) z184 z185 z186 z187 z188) < (y180 z181 z182 z183 z184 z185 z186 z187 z188))))))))) ∧
      (((decide (z181 ≤ y161)) = false) →
      (Need ((List.length z183) = (List.length z183)) ∧
      ((y0 z2 (-(1 : Int)) (z4 + (2 : Int)) ((Int.toNat z182) : Int) z183 z184 z185 z186 z187 z188) ∧
      Need ((y1 z2 (-(1 : Int)) (z4 + (2 : Int)) ((Int.toNat z182) : Int) z183 z184 z185 z186 z187 z188) < (y1 z2 z3 z4 z5 z6 z7 z8 z9 z10 z11))))))))))))))))))))) ∧
     (((decide ((List.getD x0 (Int.toNat z4) (0 : Int)) = (45 : Int))) = false) →
     (Need (((0 : Int) ≤ y161) ∧ (y161 < (256 : Int))) ∧
     (Need ((Int.toNat z5) = 0) ∧
     (Need ((0 + (Int.toNat y161)) < (List.length z6)) ∧
     (Need (((-9223372036854775808 : Int) ≤ y161) ∧ (y161 ≤ (9223372036854775807 : Int))) ∧
     (Need ((List.length z6) = (List.length (List.set z6 (0 + (Int.toNat y161)) true))) ∧
     ((y0 true y161 (z4 + (2 : Int)) ((Int.toNat z5) : Int) (List.set z6 (0 + (Int.toNat y161)) true) z7 z8 z9 z10 z11) ∧
     Need ((y1 true y161 (z4 + (2 : Int)) ((Int.toNat z5) : Int) (List.set z6 (0 + (Int.toNat y161)) true) z7 z8 z9 z10 z11) < (y1 z2 z3 z4 z5 z6 z7 z8 z9 z10 z11)))))))))))))) ∧
    (((decide ((List.getD x0 (Int.toNat z4) (0 : Int)) = (45 : Int))) = false) →
    ((((decide ((List.getD x0 (Int.toNat z4) (0 : Int)) = (45 : Int))) = true) →
     (∃ y195 : (Int → (Int → ((List Bool) → (Int → ((List Int) → (Int → (Int → (Int → Prop)))))))),
     (∃ y196 : (Int → (Int → ((List Bool) → (Int → ((List Int) → (Int → (Int → (Int → Nat)))))))),
     (Need ((List.length z6) = (List.length z6)) ∧
     ((y195 z3 ((Int.toNat z5) : Int) z6 z7 z8 z9 z10 z11) ∧
     (∀ z197 : Int,
     (∀ z198 : Int,
     (∀ z199 : (List Bool),
     (∀ z200 : Int,
     (∀ z201 : (List Int),
     (∀ z202 : Int,
     (∀ z203 : Int,
     (∀ z204 : Int,
     ((y195 z197 z198 z199 z200 z201 z202 z203 z204) →
     (Need (((-9223372036854775808 : Int) ≤ y161) ∧ (y161 ≤ (9223372036854775807 : Int))) ∧
     ((((decide (z197 ≤ y161)) = true) →
      (Need (((0 : Int) ≤ z197) ∧ (z197 < (256 : Int))) ∧
      (Need ((Int.toNat z198) = 0) ∧
      (Need ((0 + (Int.toNat z197)) < (List.length z199)) ∧
      (Need (((-9223372036854775808 : Int) ≤ (z197 + (1 : Int))) ∧ ((z197 + (1 : Int)) ≤ (9223372036854775807 : Int))) ∧
      (Need ((List.length z199) = (List.length (List.set z199 (0 + (Int.toNat z197)) true))) ∧
      ((y195 (z197 + (1 : Int)) ((Int.toNat z198) : Int) (List.set z199 (0 + (Int.toNat z197)) true) z200 z201 z202 z203 z204) ∧
      Need ((y196 (z197 + (1 : Int)) ((Int.toNat z198) : Int) (List.set z199 (0 + (Int.toNat z197)) true) z200 z201 z202 z203 z204) < (y196 z197 z198 z199 z200 z201 z202 z203 z204))))))))) ∧
     (((decide (z197 ≤ y161)) = false) →
     (Need ((List.length z199) = (List.length z199)) ∧
     ((y0 z2 (-(1 : Int)) (z4 + (2 : Int)) ((Int.toNat z198) : Int) z199 z200 z201 z202 z203 z204) ∧
     Need ((y1 z2 (-(1 : Int)) (z4 + (2 : Int)) ((Int.toNat z198) : Int) z199 z200 z201 z202 z203 z204) < (y1 z2 z3 z4 z5 z6 z7 z8 z9 z10 z11))))))))))))))))))))) ∧
    (((decide ((List.getD x0 (Int.toNat z4) (0 : Int)) = (45 : Int))) = false) →
    (Need (((0 : Int) ≤ y161) ∧ (y161 < (256 : Int))) ∧
    (Need ((Int.toNat z5) = 0) ∧
    (Need ((0 + (Int.toNat y161)) < (List.length z6)) ∧
    (Need (((-9223372036854775808 : Int) ≤ y161) ∧ (y161 ≤ (9223372036854775807 : Int))) ∧
    (Need ((List.length z6) = (List.length (List.set z6 (0 + (Int.toNat y161)) true))) ∧
    ((y0 true y161 (z4 + (2 : Int)) ((Int.toNat z5) : Int) (List.set z6 (0 + (Int.toNat y161)) true) z7 z8 z9 z10 z11) ∧
    Need ((y1 true y161 (z4 + (2 : Int)) ((Int.toNat z5) : Int) (List.set z6 (0 + (Int.toNat y161)) true) z7 z8 z9 z10 z11) < (y1 z2 z3 z4 z5 z6 z7 z8 z9 z10 z11))))))))))))))))))) ∧
   (((decide ((List.getD x0 (Int.toNat z4) (0 : Int)) = (92 : Int))) = false) →
   ((((decide ((List.getD x0 (Int.toNat z4) (0 : Int)) = (45 : Int))) = true) →
    (Need (((-9223372036854775808 : Int) ≤ (List.getD x0 (Int.toNat z4) (0 : Int))) ∧ ((List.getD x0 (Int.toNat z4) (0 : Int)) ≤ (9223372036854775807 : Int))) ∧
    ((((decide ((List.getD x0 (Int.toNat z4) (0 : Int)) < z3)) = true) →
     (∃ y212 : Int,
     (∃ y213 : (List Int),
     (∃ y214 : Int,
     (∃ y215 : Int,
     (∃ y216 : Int,
     (Need (E 39 [(.tv [] (.int .i64) (10 : Int)), (.tv [] (.int .i64) z4)] [] (.tv [] (.pair (.int .i64) (.pair .str (.pair (.int .i64) (.pair (.int .i64) (.pair (.int .i64) .unit))))) (y212, (y213, (y214, (y215, (y216, ())))))) []) ∧
     (Q (.tv [] (.pair (.int .i64) (.pair .str (.pair (.int .i64) (.pair (.int .i64) (.pair (.int .i64) .unit))))) (y212, (y213, (y214, (y215, (y216, ())))))) [])))))))) ∧
    (((decide ((List.getD x0 (Int.toNat z4) (0 : Int)) < z3)) = false) →
    ((((decide ((List.getD x0 (Int.toNat z4) (0 : Int)) = (45 : Int))) = true) →
     (∃ y219 : (Int → (Int → ((List Bool) → (Int → ((List Int) → (Int → (Int → (Int → Prop)))))))),
     (∃ y220 : (Int → (Int → ((List Bool) → (Int → ((List Int) → (Int → (Int → (Int → Nat)))))))),
     (Need ((List.length z6) = (List.length z6)) ∧
     ((y219 z3 ((Int.toNat z5) : Int) z6 z7 z8 z9 z10 z11) ∧
     (∀ z221 : Int,
     (∀ z222 : Int,
     (∀ z223 : (List Bool),
     (∀ z224 : Int,
     (∀ z225 : (List Int),
     (∀ z226 : Int,
     (∀ z227 : Int,
     (∀ z228 : Int,
     ((y219 z221 z222 z223 z224 z225 z226 z227 z228) →
     (Need (((-9223372036854775808 : Int) ≤ (List.getD x0 (Int.toNat z4) (0 : Int))) ∧ ((List.getD x0 (Int.toNat z4) (0 : Int)) ≤ (9223372036854775807 : Int))) ∧
     ((((decide (z221 ≤ (List.getD x0 (Int.toNat z4) (0 : Int)))) = true) →
      (Need (((0 : Int) ≤ z221) ∧ (z221 < (256 : Int))) ∧
      (Need ((Int.toNat z222) = 0) ∧
      (Need ((0 + (Int.toNat z221)) < (List.length z223)) ∧
      (Need (((-9223372036854775808 : Int) ≤ (z221 + (1 : Int))) ∧ ((z221 + (1 : Int)) ≤ (9223372036854775807 : Int))) ∧
      (Need ((List.length z223) = (List.length (List.set z223 (0 + (Int.toNat z221)) true))) ∧
      ((y219 (z221 + (1 : Int)) ((Int.toNat z222) : Int) (List.set z223 (0 + (Int.toNat z221)) true) z224 z225 z226 z227 z228) ∧
      Need ((y220 (z221 + (1 : Int)) ((Int.toNat z222) : Int) (List.set z223 (0 + (Int.toNat z221)) true) z224 z225 z226 z227 z228) < (y220 z221 z222 z223 z224 z225 z226 z227 z228))))))))) ∧
     (((decide (z221 ≤ (List.getD x0 (Int.toNat z4) (0 : Int)))) = false) →
     (Need ((List.length z223) = (List.length z223)) ∧
     ((y0 z2 (-(1 : Int)) (z4 + (1 : Int)) ((Int.toNat z222) : Int) z223 z224 z225 z226 z227 z228) ∧
     Need ((y1 z2 (-(1 : Int)) (z4 + (1 : Int)) ((Int.toNat z222) : Int) z223 z224 z225 z226 z227 z228) < (y1 z2 z3 z4 z5 z6 z7 z8 z9 z10 z11))))))))))))))))))))) ∧
    (((decide ((List.getD x0 (Int.toNat z4) (0 : Int)) = (45 : Int))) = false) →
    (Need (((0 : Int) ≤ (List.getD x0 (Int.toNat z4) (0 : Int))) ∧ ((List.getD x0 (Int.toNat z4) (0 : Int)) < (256 : Int))) ∧
    (Need ((Int.toNat z5) = 0) ∧
    (Need ((0 + (Int.toNat (List.getD x0 (Int.toNat z4) (0 : Int)))) < (List.length z6)) ∧
    (Need (((-9223372036854775808 : Int) ≤ (List.getD x0 (Int.toNat z4) (0 : Int))) ∧ ((List.getD x0 (Int.toNat z4) (0 : Int)) ≤ (9223372036854775807 : Int))) ∧
    (Need ((List.length z6) = (List.length (List.set z6 (0 + (Int.toNat (List.getD x0 (Int.toNat z4) (0 : Int)))) true))) ∧
    ((y0 true (List.getD x0 (Int.toNat z4) (0 : Int)) (z4 + (1 : Int)) ((Int.toNat z5) : Int) (List.set z6 (0 + (Int.toNat (List.getD x0 (Int.toNat z4) (0 : Int)))) true) z7 z8 z9 z10 z11) ∧
    Need ((y1 true (List.getD x0 (Int.toNat z4) (0 : Int)) (z4 + (1 : Int)) ((Int.toNat z5) : Int) (List.set z6 (0 + (Int.toNat (List.getD x0 (Int.toNat z4) (0 : Int)))) true) z7 z8 z9 z10 z11) < (y1 z2 z3 z4 z5 z6 z7 z8 z9 z10 z11)))))))))))))) ∧
   (((decide ((List.getD x0 (Int.toNat z4) (0 : Int)) = (45 : Int))) = false) →
   ((((decide ((List.getD x0 (Int.toNat z4) (0 : Int)) = (45 : Int))) = true) →
    (∃ y235 : (Int → (Int → ((List Bool) → (Int → ((List Int) → (Int → (Int → (Int → Prop)))))))),
    (∃ y236 : (Int → (Int → ((List Bool) → (Int → ((List Int) → (Int → (Int → (Int → Nat)))))))),
    (Need ((List.length z6) = (List.length z6)) ∧
    ((y235 z3 ((Int.toNat z5) : Int) z6 z7 z8 z9 z10 z11) ∧
    (∀ z237 : Int,
    (∀ z238 : Int,
    (∀ z239 : (List Bool),
    (∀ z240 : Int,
    (∀ z241 : (List Int),
    (∀ z242 : Int,
    (∀ z243 : Int,
    (∀ z244 : Int,
    ((y235 z237 z238 z239 z240 z241 z242 z243 z244) →
    (Need (((-9223372036854775808 : Int) ≤ (List.getD x0 (Int.toNat z4) (0 : Int))) ∧ ((List.getD x0 (Int.toNat z4) (0 : Int)) ≤ (9223372036854775807 : Int))) ∧
    ((((decide (z237 ≤ (List.getD x0 (Int.toNat z4) (0 : Int)))) = true) →
     (Need (((0 : Int) ≤ z237) ∧ (z237 < (256 : Int))) ∧
     (Need ((Int.toNat z238) = 0) ∧
     (Need ((0 + (Int.toNat z237)) < (List.length z239)) ∧
     (Need (((-9223372036854775808 : Int) ≤ (z237 + (1 : Int))) ∧ ((z237 + (1 : Int)) ≤ (9223372036854775807 : Int))) ∧
     (Need ((List.length z239) = (List.length (List.set z239 (0 + (Int.toNat z237)) true))) ∧
     ((y235 (z237 + (1 : Int)) ((Int.toNat z238) : Int) (List.set z239 (0 + (Int.toNat z237)) true) z240 z241 z242 z243 z244) ∧
     Need ((y236 (z237 + (1 : Int)) ((Int.toNat z238) : Int) (List.set z239 (0 + (Int.toNat z237)) true) z240 z241 z242 z243 z244) < (y236 z237 z238 z239 z240 z241 z242 z243 z244))))))))) ∧
    (((decide (z237 ≤ (List.getD x0 (Int.toNat z4) (0 : Int)))) = false) →
    (Need ((List.length z239) = (List.length z239)) ∧
    ((y0 z2 (-(1 : Int)) (z4 + (1 : Int)) ((Int.toNat z238) : Int) z239 z240 z241 z242 z243 z244) ∧
    Need ((y1 z2 (-(1 : Int)) (z4 + (1 : Int)) ((Int.toNat z238) : Int) z239 z240 z241 z242 z243 z244) < (y1 z2 z3 z4 z5 z6 z7 z8 z9 z10 z11))))))))))))))))))))) ∧
   (((decide ((List.getD x0 (Int.toNat z4) (0 : Int)) = (45 : Int))) = false) →
   (Need (((0 : Int) ≤ (List.getD x0 (Int.toNat z4) (0 : Int))) ∧ ((List.getD x0 (Int.toNat z4) (0 : Int)) < (256 : Int))) ∧
   (Need ((Int.toNat z5) = 0) ∧
   (Need ((0 + (Int.toNat (List.getD x0 (Int.toNat z4) (0 : Int)))) < (List.length z6)) ∧
   (Need (((-9223372036854775808 : Int) ≤ (List.getD x0 (Int.toNat z4) (0 : Int))) ∧ ((List.getD x0 (Int.toNat z4) (0 : Int)) ≤ (9223372036854775807 : Int))) ∧
   (Need ((List.length z6) = (List.length (List.set z6 (0 + (Int.toNat (List.getD x0 (Int.toNat z4) (0 : Int)))) true))) ∧
   ((y0 true (List.getD x0 (Int.toNat z4) (0 : Int)) (z4 + (1 : Int)) ((Int.toNat z5) : Int) (List.set z6 (0 + (Int.toNat (List.getD x0 (Int.toNat z4) (0 : Int)))) true) z7 z8 z9 z10 z11) ∧
   Need ((y1 true (List.getD x0 (Int.toNat z4) (0 : Int)) (z4 + (1 : Int)) ((Int.toNat z5) : Int) (List.set z6 (0 + (Int.toNat (List.getD x0 (Int.toNat z4) (0 : Int)))) true) z7 z8 z9 z10 z11) < (y1 z2 z3 z4 z5 z6 z7 z8 z9 z10 z11))))))))))))))))))))))) ∧
  (((decide ((List.getD x0 (Int.toNat z4) (0 : Int)) ≠ (10 : Int))) = false) →
  (∃ y250 : Int,
  (∃ y251 : (List Int),
  (∃ y252 : Int,
  (∃ y253 : Int,
  (∃ y254 : Int,
  (Need (E 39 [(.tv [] (.int .i64) (11 : Int)), (.tv [] (.int .i64) x1)] [] (.tv [] (.pair (.int .i64) (.pair .str (.pair (.int .i64) (.pair (.int .i64) (.pair (.int .i64) .unit))))) (y250, (y251, (y252, (y253, (y254, ())))))) []) ∧
  (Q (.tv [] (.pair (.int .i64) (.pair .str (.pair (.int .i64) (.pair (.int .i64) (.pair (.int .i64) .unit))))) (y250, (y251, (y252, (y253, (y254, ())))))) []))))))))))) ∧
 (((decide (z4 < ((List.length x0) : Int))) = false) →
 (∃ y256 : Int,
 (∃ y257 : (List Int),
 (∃ y258 : Int,
 (∃ y259 : Int,
 (∃ y260 : Int,
 (Need (E 39 [(.tv [] (.int .i64) (11 : Int)), (.tv [] (.int .i64) x1)] [] (.tv [] (.pair (.int .i64) (.pair .str (.pair (.int .i64) (.pair (.int .i64) (.pair (.int .i64) .unit))))) (y256, (y257, (y258, (y259, (y260, ())))))) []) ∧
 (Q (.tv [] (.pair (.int .i64) (.pair .str (.pair (.int .i64) (.pair (.int .i64) (.pair (.int .i64) .unit))))) (y256, (y257, (y258, (y259, (y260, ())))))) []))))))))))))))))))))))))))) : EvF PP orc 42 [.tv [] .str x0, .tv [] (.int .i64) x1] [] Q := vcF_ok (sg := sg) (Eq.mp (by kernel_rfl) h)
/-- tronage/tronageref05.action -/
theorem vc43 (x0 : List Int) (x1 : Int) (Q : AV → Heap → Prop) (h :
(∃ y0 : (Int → (Int → (Int → ((List Int) → (Int → (Int → (Int → Prop))))))),
 (∃ y1 : (Int → (Int → (Int → ((List Int) → (Int → (Int → (Int → Nat))))))),
 ((y0 (0 : Int) x1 (0 : Int) [] (0 : Int) (0 : Int) (0 : Int)) ∧
 (∀ z2 : Int,
 (∀ z3 : Int,
 (∀ z4 : Int,
 (∀ z5 : (List Int),
 (∀ z6 : Int,
 (∀ z7 : Int,
 (∀ z8 : Int,
 ((y0 z2 z3 z4 z5 z6 z7 z8) →
 ((((decide (z3 < ((List.length x0) : Int))) = true) →
  (Need (((0 : Int) ≤ z3) ∧ (z3 < ((List.length x0) : Int))) ∧
  ((((decide ((List.getD x0 (Int.toNat z3) (0 : Int)) = (123 : Int))) = true) →
   (Need (((-9223372036854775808 : Int) ≤ (z2 + (1 : Int))) ∧ ((z2 + (1 : Int)) ≤ (9223372036854775807 : Int))) ∧
   ((((decide ((4 : Int) < (z2 + (1 : Int)))) = true) →
    (∃ y13 : Int,
    (∃ y14 : (List Int),
    (∃ y15 : Int,
    (∃ y16 : Int,
    (∃ y17 : Int,
    (Need (E 39 [(.tv [] (.int .i64) (13 : Int)), (.tv [] (.int .i64) z3)] [] (.tv [] (.pair (.int .i64) (.pair .str (.pair (.int .i64) (.pair (.int .i64) (.pair (.int .i64) .unit))))) (y13, (y14, (y15, (y16, (y17, ())))))) []) ∧
    (Q (.tv [] (.pair (.int .i64) (.pair .str (.pair (.int .i64) (.pair (.int .i64) (.pair (.int .i64) .unit))))) (y13, (y14, (y15, (y16, (y17, ())))))) [])))))))) ∧
   (((decide ((4 : Int) < (z2 + (1 : Int)))) = false) →
   (Need (((0 : Int) ≤ z3) ∧ (z3 < ((List.length x0) : Int))) ∧
   ((((decide ((List.getD x0 (Int.toNat z3) (0 : Int)) = (125 : Int))) = true) →
    (Need (((-9223372036854775808 : Int) ≤ ((z2 + (1 : Int)) - (1 : Int))) ∧ (((z2 + (1 : Int)) - (1 : Int)) ≤ (9223372036854775807 : Int))) ∧
    ((((decide (((z2 + (1 : Int)) - (1 : Int)) = (0 : Int))) = true) →
     (Need (((-9223372036854775808 : Int) ≤ (z3 - x1)) ∧ ((z3 - x1) ≤ (9223372036854775807 : Int))) ∧
     (Need (((-9223372036854775808 : Int) ≤ ((z3 - x1) - (1 : Int))) ∧ (((z3 - x1) - (1 : Int)) ≤ (9223372036854775807 : Int))) ∧
     ((((decide ((200 : Int) < ((z3 - x1) - (1 : Int)))) = true) →
      (∃ y22 : Int,
      (∃ y23 : (List Int),
      (∃ y24 : Int,
      (∃ y25 : Int,
      (∃ y26 : Int,
      (Need (E 39 [(.tv [] (.int .i64) (12 : Int)), (.tv [] (.int .i64) x1)] [] (.tv [] (.pair (.int .i64) (.pair .str (.pair (.int .i64) (.pair (.int .i64) (.pair (.int .i64) .unit))))) (y22, (y23, (y24, (y25, (y26, ())))))) []) ∧
      (Q (.tv [] (.pair (.int .i64) (.pair .str (.pair (.int .i64) (.pair (.int .i64) (.pair (.int .i64) .unit))))) (y22, (y23, (y24, (y25, (y26, ())))))) [])))))))) ∧
     (((decide ((200 : Int) < ((z3 - x1) - (1 : Int)))) = false) →
     (Need (((-9223372036854775808 : Int) ≤ (x1 + (1 : Int))) ∧ ((x1 + (1 : Int)) ≤ (9223372036854775807 : Int))) ∧
     (Need (((0 : Int) ≤ (x1 + (1 : Int))) ∧ (((x1 + (1 : Int)) ≤ z3) ∧ (z3 ≤ ((List.length x0) : Int)))) ∧
     (Need (((-9223372036854775808 : Int) ≤ (z3 + (1 : Int))) ∧ ((z3 + (1 : Int)) ≤ (9223372036854775807 : Int))) ∧
     (Q (.tv [] (.pair (.int .i64) (.pair .str (.pair (.int .i64) (.pair (.int .i64) (.pair (.int .i64) .unit))))) ((9 : Int), ((cut x0 (Int.toNat (x1 + (1 : Int))) (Int.toNat z3)), ((z3 + (1 : Int)), ((0 : Int), ((0 : Int), ())))))) []))))))))) ∧
    (((decide (((z2 + (1 : Int)) - (1 : Int)) = (0 : Int))) = false) →
    (Need (((-9223372036854775808 : Int) ≤ (z3 + (1 : Int))) ∧ ((z3 + (1 : Int)) ≤ (9223372036854775807 : Int))) ∧
    ((y0 ((z2 + (1 : Int)) - (1 : Int)) (z3 + (1 : Int)) z4 z5 z6 z7 z8) ∧
    Need ((y1 ((z2 + (1 : Int)) - (1 : Int)) (z3 + (1 : Int)) z4 z5 z6 z7 z8) < (y1 z2 z3 z4 z5 z6 z7 z8)))))))) ∧
   (((decide ((List.getD x0 (Int.toNat z3) (0 : Int)) = (125 : Int))) = false) →
   ((((decide ((z2 + (1 : Int)) = (0 : Int))) = true) →
    (Need (((-9223372036854775808 : Int) ≤ (z3 - x1)) ∧ ((z3 - x1) ≤ (9223372036854775807 : Int))) ∧
    (Need (((-9223372036854775808 : Int) ≤ ((z3 - x1) - (1 : Int))) ∧ (((z3 - x1) - (1 : Int)) ≤ (9223372036854775807 : Int))) ∧
    ((((decide ((200 : Int) < ((z3 - x1) - (1 : Int)))) = true) →
     (∃ y32 : Int,
     (∃ y33 : (List Int),
     (∃ y34 : Int,
     (∃ y35 : Int,
     (∃ y36 : Int,
     (Need (E 39 [(.tv [] (.int .i64) (12 : Int)), (.tv [] (.int .i64) x1)] [] (.tv [] (.pair (.int .i64) (.pair .str (.pair (.int .i64) (.pair (.int .i64) (.pair (.int .i64) .unit))))) (y32, (y33, (y34, (y35, (y36, ())))))) []) ∧
     (Q (.tv [] (.pair (.int .i64) (.pair .str (.pair (.int .i64) (.pair (.int .i64) (.pair (.int .i64) .unit))))) (y32, (y33, (y34, (y35, (y36, ())))))) [])))))))) ∧
    (((decide ((200 : Int) < ((z3 - x1) - (1 : Int)))) = false) →
    (Need (((-9223372036854775808 : Int) ≤ (x1 + (1 : Int))) ∧ ((x1 + (1 : Int)) ≤ (9223372036854775807 : Int))) ∧
    (Need (((0 : Int) ≤ (x1 + (1 : Int))) ∧ (((x1 + (1 : Int)) ≤ z3) ∧ (z3 ≤ ((List.length x0) : Int)))) ∧
    (Need (((-9223372036854775808 : Int) ≤ (z3 + (1 : Int))) ∧ ((z3 + (1 : Int)) ≤ (9223372036854775807 : Int))) ∧
    (Q (.tv [] (.pair (.int .i64) (.pair .str (.pair (.int .i64) (.pair (.int .i64) (.pair (.int .i64) .unit))))) ((9 : Int), ((cut x0 (Int.toNat (x1 + (1 : Int))) (Int.toNat z3)), ((z3 + (1 : Int)), ((0 : Int), ((0 : Int), ())))))) []))))))))) ∧
   (((decide ((z2 + (1 : Int)) = (0 : Int))) = false) →
   (Need (((-9223372036854775808 : Int) ≤ (z3 + (1 : Int))) ∧ ((z3 + (1 : Int)) ≤ (9223372036854775807 : Int))) ∧
   ((y0 (z2 + (1 : Int)) (z3 + (1 : Int)) z4 z5 z6 z7 z8) ∧
   Need ((y1 (z2 + (1 : Int)) (z3 + (1 : Int)) z4 z5 z6 z7 z8) < (y1 z2 z3 z4 z5 z6 z7 z8))))))))))))) ∧
  (((decide ((List.getD x0 (Int.toNat z3) (0 : Int)) = (123 : Int))) = false) →
  ((((decide ((4 : Int) < z2)) = true) →
   (∃ y41 : Int,
   (∃ y42 : (List Int),
   (∃ y43 : Int,
   (∃ y44 : Int,
   (∃ y45 : Int,
   (Need (E 39 [(.tv [] (.int .i64) (13 : Int)), (.tv [] (.int .i64) z3)] [] (.tv [] (.pair (.int .i64) (.pair .str (.pair (.int .i64) (.pair (.int .i64) (.pair (.int .i64) .unit))))) (y41, (y42, (y43, (y44, (y45, ())))))) []) ∧
   (Q (.tv [] (.pair (.int .i64) (.pair .str (.pair (.int .i64) (.pair (.int .i64) (.pair (.int .i64) .unit))))) (y41, (y42, (y43, (y44, (y45, ())))))) [])))))))) ∧
  (((decide ((4 : Int) < z2)) = false) →
  (Need (((0 : Int) ≤ z3) ∧ (z3 < ((List.length x0) : Int))) ∧
  ((((decide ((List.getD x0 (Int.toNat z3) (0 : Int)) = (125 : Int))) = true) →
   (Need (((-9223372036854775808 : Int) ≤ (z2 - (1 : Int))) ∧ ((z2 - (1 : Int)) ≤ (9223372036854775807 : Int))) ∧
   ((((decide ((z2 - (1 : Int)) = (0 : Int))) = true) →
    (Need (((-9223372036854775808 : Int) ≤ (z3 - x1)) ∧ ((z3 - x1) ≤ (9223372036854775807 : Int))) ∧
    (Need (((-9223372036854775808 : Int) ≤ ((z3 - x1) - (1 : Int))) ∧ (((z3 - x1) - (1 : Int)) ≤ (9223372036854775807 : Int))) ∧
    ((((decide ((200 : Int) < ((z3 - x1) - (1 : Int)))) = true) →
     (∃ y50 : Int,
     (∃ y51 : (List Int),
     (∃ y52 : Int,
     (∃ y53 : Int,
     (∃ y54 : Int,
     (Need (E 39 [(.tv [] (.int .i64) (12 : Int)), (.tv [] (.int .i64) x1)] [] (.tv [] (.pair (.int .i64) (.pair .str (.pair (.int .i64) (.pair (.int .i64) (.pair (.int .i64) .unit))))) (y50, (y51, (y52, (y53, (y54, ())))))) []) ∧
     (Q (.tv [] (.pair (.int .i64) (.pair .str (.pair (.int .i64) (.pair (.int .i64) (.pair (.int .i64) .unit))))) (y50, (y51, (y52, (y53, (y54, ())))))) [])))))))) ∧
    (((decide ((200 : Int) < ((z3 - x1) - (1 : Int)))) = false) →
    (Need (((-9223372036854775808 : Int) ≤ (x1 + (1 : Int))) ∧ ((x1 + (1 : Int)) ≤ (9223372036854775807 : Int))) ∧
    (Need (((0 : Int) ≤ (x1 + (1 : Int))) ∧ (((x1 + (1 : Int)) ≤ z3) ∧ (z3 ≤ ((List.length x0) : Int)))) ∧
    (Need (((-9223372036854775808 : Int) ≤ (z3 + (1 : Int))) ∧ ((z3 + (1 : Int)) ≤ (9223372036854775807 : Int))) ∧
    (Q (.tv [] (.pair (.int .i64) (.pair .str (.pair (.int .i64) (.pair (.int .i64) (.pair (.int .i64) .unit))))) ((9 : Int), ((cut x0 (Int.toNat (x1 + (1 : Int))) (Int.toNat z3)), ((z3 + (1 : Int)), ((0 : Int), ((0 : Int), ())))))) []))))))))) ∧
   (((decide ((z2 - (1 : Int)) = (0 : Int))) = false) →
   (Need (((-9223372036854775808 : Int) ≤ (z3 + (1 : Int))) ∧ ((z3 + (1 : Int)) ≤ (9223372036854775807 : Int))) ∧
   ((y0 (z2 - (1 : Int)) (z3 + (1 : Int)) z4 z5 z6 z7 z8) ∧
   Need ((y1 (z2 - (1 : Int)) (z3 + (1 : Int)) z4 z5 z6 z7 z8) < (y1 z2 z3 z4 z5 z6 z7 z8)))))))) ∧
  (((decide ((List.getD x0 (Int.toNat z3) (0 : Int)) = (125 : Int))) = false) →
  ((((decide (z2 = (0 : Int))) = true) →
   (Need (((-9223372036854775808 : Int) ≤ (z3 - x1)) ∧ ((z3 - x1) ≤ (9223372036854775807 : Int))) ∧
   (Need (((-9223372036854775808 : Int) ≤ ((z3 - x1) - (1 : Int))) ∧ (((z3 - x1) - (1 : Int)) ≤ (9223372036854775807 : Int))) ∧
   ((((decide ((200 : Int) < ((z3 - x1) - (1 : Int)))) = true) →
    (∃ y60 : Int,
    (∃ y61 : (List Int),
    (∃ y62 : Int,
    (∃ y63 : Int,
    (∃ y64 : Int,
    (Need (E 39 [(.tv [] (.int .i64) (12 : Int)), (.tv [] (.int .i64) x1)] [] (.tv [] (.pair (.int .i64) (.pair .str (.pair (.int .i64) (.pair (.int .i64) (.pair (.int .i64) .unit))))) (y60, (y61, (y62, (y63, (y64, ())))))) []) ∧
    (Q (.tv [] (.pair (.int .i64) (.pair .str (.pair (.int .i64) (.pair (.int .i64) (.pair (.int .i64) .unit))))) (y60, (y61, (y62, (y63, (y64, ())))))) [])))))))) ∧
   (((decide ((200 : Int) < ((z3 - x1) - (1 : Int)))) = false) →
   (Need (((-9223372036854775808 : Int) ≤ (x1 + (1 : Int))) ∧ ((x1 + (1 : Int)) ≤ (9223372036854775807 : Int))) ∧
   (Need (((0 : Int) ≤ (x1 + (1 : Int))) ∧ (((x1 + (1 : Int)) ≤ z3) ∧ (z3 ≤ ((List.length x0) : Int)))) ∧
   (Need (((-9223372036854775808 : Int) ≤ (z3 + (1 : Int))) ∧ ((z3 + (1 : Int)) ≤ (9223372036854775807 : Int))) ∧
   (Q (.tv [] (.pair (.int .i64) (.pair .str (.pair (.int .i64) (.pair (.int .i64) (.pair (.int .i64) .unit))))) ((9 : Int), ((cut x0 (Int.toNat (x1 + (1 : Int))) (Int.toNat z3)), ((z3 + (1 : Int)), ((0 : Int), ((0 : Int), ())))))) []))))))))) ∧
  (((decide (z2 = (0 : Int))) = false) →
  (Need (((-9223372036854775808 : Int) ≤ (z3 + (1 : Int))) ∧ ((z3 + (1 : Int)) ≤ (9223372036854775807 : Int))) ∧
  ((y0 z2 (z3 + (1 : Int)) z4 z5 z6 z7 z8) ∧
  Need ((y1 z2 (z3 + (1 : Int)) z4 z5 z6 z7 z8) < (y1 z2 z3 z4 z5 z6 z7 z8))))))))))))))) ∧
 (((decide (z3 < ((List.length x0) : Int))) = false) →
 (∃ y68 : Int,
 (∃ y69 : (List Int),
 (∃ y70 : Int,
 (∃ y71 : Int,
 (∃ y72 : Int,
 (Need (E 39 [(.tv [] (.int .i64) (11 : Int)), (.tv [] (.int .i64) x1)] [] (.tv [] (.pair (.int .i64) (.pair .str (.pair (.int .i64) (.pair (.int .i64) (.pair (.int .i64) .unit))))) (y68, (y69, (y70, (y71, (y72, ())))))) []) ∧
 (Q (.tv [] (.pair (.int .i64) (.pair .str (.pair (.int .i64) (.pair (.int .i64) (.pair (.int .i64) .unit))))) (y68, (y69, (y70, (y71, (y72, ())))))) []))))))))))))))))))))) : EvF PP orc 43 [.tv [] .str x0, .tv [] (.int .i64) x1] [] Q := vcF_ok (sg := sg) (Eq.mp (by kernel_rfl) h)
/-- tronage/tronageref05.word -/
theorem vc40 (x0 : List Int) (x1 : Int) (Q : AV → Heap → Prop) (h :
(Need (((-9223372036854775808 : Int) ≤ (x1 + (1 : Int))) ∧ ((x1 + (1 : Int)) ≤ (9223372036854775807 : Int))) ∧
 ((((decide ((x1 + (1 : Int)) < ((List.length x0) : Int))) = true) →
  (Need (((-9223372036854775808 : Int) ≤ (x1 + (1 : Int))) ∧ ((x1 + (1 : Int)) ≤ (9223372036854775807 : Int))) ∧
  (Need (((0 : Int) ≤ (x1 + (1 : Int))) ∧ ((x1 + (1 : Int)) < ((List.length x0) : Int))) ∧
  ((((decide ((List.getD x0 (Int.toNat (x1 + (1 : Int))) (0 : Int)) = (37 : Int))) = true) →
   (∃ y2 : (List (List Int)),
   (Need (E 22 [] [] (.tv [[]] (.slice .str) y2) []) ∧
   (∃ y3 : (Int → (Int → ((List Int) → (Int → (Int → (Int → Prop)))))),
   (∃ y4 : (Int → (Int → ((List Int) → (Int → (Int → (Int → Nat)))))),
   ((y3 (0 : Int) (0 : Int) [] (0 : Int) (0 : Int) (0 : Int)) ∧
   (∀ z5 : Int,
   (∀ z6 : Int,
   (∀ z7 : (List Int),
   (∀ z8 : Int,
   (∀ z9 : Int,
   (∀ z10 : Int,
   ((y3 z5 z6 z7 z8 z9 z10) →
   ((((decide (z5 < ((List.length y2) : Int))) = true) →
    (Need (((0 : Int) ≤ z5) ∧ (z5 < ((List.length y2) : Int))) ∧
    ((((decide ((List.getD y2 (Int.toNat z5) []) = [(37 : Int)])) = true) →
     (Need (((-9223372036854775808 : Int) ≤ (x1 + (1 : Int))) ∧ ((x1 + (1 : Int)) ≤ (9223372036854775807 : Int))) ∧
     (Need (((-9223372036854775808 : Int) ≤ ((x1 + (1 : Int)) + ((1 : Nat) : Int))) ∧ (((x1 + (1 : Int)) + ((1 : Nat) : Int)) ≤ (9223372036854775807 : Int))) ∧
     (Q (.tv [] (.pair (.int .i64) (.pair .str (.pair (.int .i64) (.pair (.int .i64) (.pair (.int .i64) .unit))))) ((2 : Int), ((List.map (fun v14 => (((BitVec.toNat (UInt8.toBitVec v14)) : Nat) : Int)) [(37 : UInt8)]), (((x1 + (1 : Int)) + ((1 : Nat) : Int)), ((0 : Int), ((0 : Int), ())))))) [])))) ∧
    (((decide ((List.getD y2 (Int.toNat z5) []) = [(37 : Int)])) = false) →
    (Need (((-9223372036854775808 : Int) ≤ (z5 + (1 : Int))) ∧ ((z5 + (1 : Int)) ≤ (9223372036854775807 : Int))) ∧
    ((y3 (z5 + (1 : Int)) z6 z7 z8 z9 z10) ∧
    Need ((y4 (z5 + (1 : Int)) z6 z7 z8 z9 z10) < (y4 z5 z6 z7 z8 z9 z10)))))))) ∧
   (((decide (z5 < ((List.length y2) : Int))) = false) →
   (∃ y17 : Int,
   (∃ y18 : (List Int),
   (∃ y19 : Int,
   (∃ y20 : Int,
   (∃ y21 : Int,
   (Need (E 39 [(.tv [] (.int .i64) (10 : Int)), (.tv [] (.int .i64) x1)] [] (.tv [] (.pair (.int .i64) (.pair .str (.pair (.int .i64) (.pair (.int .i64) (.pair (.int .i64) .unit))))) (y17, (y18, (y19, (y20, (y21, ())))))) []) ∧
   (Q (.tv [] (.pair (.int .i64) (.pair .str (.pair (.int .i64) (.pair (.int .i64) (.pair (.int .i64) .unit))))) (y17, (y18, (y19, (y20, (y21, ())))))) [])))))))))))))))))))))) ∧
  (((decide ((List.getD x0 (Int.toNat (x1 + (1 : Int))) (0 : Int)) = (37 : Int))) = false) →
  (Need (((-9223372036854775808 : Int) ≤ (x1 + (1 : Int))) ∧ ((x1 + (1 : Int)) ≤ (9223372036854775807 : Int))) ∧
  (∃ y23 : ((List Int) → (Int → (Int → ((List Int) → (Int → (Int → (Int → Prop))))))),
  (∃ y24 : ((List Int) → (Int → (Int → ((List Int) → (Int → (Int → (Int → Nat))))))),
  ((y23 (List.map (fun v25 => (((BitVec.toNat (UInt8.toBitVec v25)) : Nat) : Int)) []) (x1 + (1 : Int)) (0 : Int) [] (0 : Int) (0 : Int) (0 : Int)) ∧
  (∀ z26 : (List Int),
  (∀ z27 : Int,
  (∀ z28 : Int,
  (∀ z29 : (List Int),
  (∀ z30 : Int,
  (∀ z31 : Int,
  (∀ z32 : Int,
  ((y23 z26 z27 z28 z29 z30 z31 z32) →
  ((((decide (z27 < ((List.length x0) : Int))) = true) →
   (Need (((0 : Int) ≤ z27) ∧ (z27 < ((List.length x0) : Int))) ∧
   ((((decide ((97 : Int) ≤ (List.getD x0 (Int.toNat z27) (0 : Int)))) = true) →
    (Need (((0 : Int) ≤ z27) ∧ (z27 < ((List.length x0) : Int))) ∧
    ((((decide ((List.getD x0 (Int.toNat z27) (0 : Int)) ≤ (122 : Int))) = true) →
     (Need (((-9223372036854775808 : Int) ≤ (z27 + (1 : Int))) ∧ ((z27 + (1 : Int)) ≤ (9223372036854775807 : Int))) ∧
     (Need (((0 : Int) ≤ z27) ∧ ((z27 ≤ (z27 + (1 : Int))) ∧ ((z27 + (1 : Int)) ≤ ((List.length x0) : Int)))) ∧
     (Need (((List.length z26) + (List.length (cut x0 (Int.toNat z27) (Int.toNat (z27 + (1 : Int)))))) ≤ bigN) ∧
     (Need (((-9223372036854775808 : Int) ≤ (z27 + (1 : Int))) ∧ ((z27 + (1 : Int)) ≤ (9223372036854775807 : Int))) ∧
     ((y23 (z26 ++ (cut x0 (Int.toNat z27) (Int.toNat (z27 + (1 : Int))))) (z27 + (1 : Int)) z28 z29 z30 z31 z32) ∧
     Need ((y24 (z26 ++ (cut x0 (Int.toNat z27) (Int.toNat (z27 + (1 : Int))))) (z27 + (1 : Int)) z28 z29 z30 z31 z32) < (y24 z26 z27 z28 z29 z30 z31 z32)))))))) ∧
    (((decide ((List.getD x0 (Int.toNat z27) (0 : Int)) ≤ (122 : Int))) = false) →
    (∃ y38 : (List (List Int)),
    (Need (E 22 [] [] (.tv [[]] (.slice .str) y38) []) ∧
    (∃ y39 : (Int → (Int → ((List Int) → (Int → (Int → (Int → Prop)))))),
    (∃ y40 : (Int → (Int → ((List Int) → (Int → (Int → (Int → Nat)))))),
    ((y39 (0 : Int) z28 z29 z30 z31 z32) ∧
    (∀ z41 : Int,
    (∀ z42 : Int,
    (∀ z43 : (List Int),
    (∀ z44 : Int,
    (∀ z45 : Int,
    (∀ z46 : Int,
    ((y39 z41 z42 z43 z44 z45 z46) →
    ((((decide (z41 < ((List.length y38) : Int))) = true) →
     (Need (((0 : Int) ≤ z41) ∧ (z41 < ((List.length y38) : Int))) ∧
     ((((decide ((List.getD y38 (Int.toNat z41) []) = z26)) = true) →
      (Need (((-9223372036854775808 : Int) ≤ (x1 + (1 : Int))) ∧ ((x1 + (1 : Int)) ≤ (9223372036854775807 : Int))) ∧
      (Need (((-9223372036854775808 : Int) ≤ ((x1 + (1 : Int)) + ((List.length z26) : Int))) ∧ (((x1 + (1 : Int)) + ((List.length z26) : Int)) ≤ (9223372036854775807 : Int))) ∧
      (Q (.tv [] (.pair (.int .i64) (.pair .str (.pair (.int .i64) (.pair (.int .i64) (.pair (.int .i64) .unit))))) ((2 : Int), (z26, (((x1 + (1 : Int)) + ((List.length z26) : Int)), ((0 : Int), ((0 : Int), ())))))) [])))) ∧
     (((decide ((List.getD y38 (Int.toNat z41) []) = z26)) = false) →
     (Need (((-9223372036854775808 : Int) ≤ (z41 + (1 : Int))) ∧ ((z41 + (1 : Int)) ≤ (9223372036854775807 : Int))) ∧
     ((y39 (z41 + (1 : Int)) z42 z43 z44 z45 z46) ∧
     Need ((y40 (z41 + (1 : Int)) z42 z43 z44 z45 z46) < (y40 z41 z42 z43 z44 z45 z46)))))))) ∧
    (((decide (z41 < ((List.length y38) : Int))) = false) →
    (∃ y52 : Int,
    (∃ y53 : (List Int),
    (∃ y54 : Int,
    (∃ y55 : Int,
    (∃ y56 : Int,
    (Need (E 39 [(.tv [] (.int .i64) (10 : Int)), (.tv [] (.int .i64) x1)] [] (.tv [] (.pair (.int .i64) (.pair .str (.pair (.int .i64) (.pair (.int .i64) (.pair (.int .i64) .unit))))) (y52, (y53, (y54, (y55, (y56, ())))))) []) ∧
    (Q (.tv [] (.pair (.int .i64) (.pair .str (.pair (.int .i64) (.pair (.int .i64) (.pair (.int .i64) .unit))))) (y52, (y53, (y54, (y55, (y56, ())))))) []))))))))))))))))))))))))) ∧
   (((decide ((97 : Int) ≤ (List.getD x0 (Int.toNat z27) (0 : Int)))) = false) →
   (∃ y58 : (List (List Int)),
   (Need (E 22 [] [] (.tv [[]] (.slice .str) y58) []) ∧
   (∃ y59 : (Int → (Int → ((List Int) → (Int → (Int → (Int → Prop)))))),
   (∃ y60 : (Int → (Int → ((List Int) → (Int → (Int → (Int → Nat)))))),
   ((y59 (0 : Int) z28 z29 z30 z31 z32) ∧
   (∀ z61 : Int,
   (∀ z62 : Int,
   (∀ z63 : (List Int),
   (∀ z64 : Int,
   (∀ z65 : Int,
   (∀ z66 : Int,
   ((y59 z61 z62 z63 z64 z65 z66) →
   ((((decide (z61 < ((List.length y58) : Int))) = true) →
    (Need (((0 : Int) ≤ z61) ∧ (z61 < ((List.length y58) : Int))) ∧
    ((((decide ((List.getD y58 (Int.toNat z61) []) = z26)) = true) →
     (Need (((-9223372036854775808 : Int) ≤ (x1 + (1 : Int))) ∧ ((x1 + (1 : Int)) ≤ (9223372036854775807 : Int))) ∧
     (Need (((-9223372036854775808 : Int) ≤ ((x1 + (1 : Int)) + ((List.length z26) : Int))) ∧ (((x1 + (1 : Int)) + ((List.length z26) : Int)) ≤ (9223372036854775807 : Int))) ∧
     (Q (.tv [] (.pair (.int .i64) (.pair .str (.pair (.int .i64) (.pair (.int .i64) (.pair (.int .i64) .unit))))) ((2 : Int), (z26, (((x1 + (1 : Int)) + ((List.length z26) : Int)), ((0 : Int), ((0 : Int), ())))))) [])))) ∧
    (((decide ((List.getD y58 (Int.toNat z61) []) = z26)) = false) →
    (Need (((-9223372036854775808 : Int) ≤ (z61 + (1 : Int))) ∧ ((z61 + (1 : Int)) ≤ (9223372036854775807 : Int))) ∧
    ((y59 (z61 + (1 : Int)) z62 z63 z64 z65 z66) ∧
    Need ((y60 (z61 + (1 : Int)) z62 z63 z64 z65 z66) < (y60 z61 z62 z63 z64 z65 z66)))))))) ∧
   (((decide (z61 < ((List.length y58) : Int))) = false) →
   (∃ y72 : Int,
   (∃ y73 : (List Int),
   (∃ y74 : Int,
   (∃ y75 : Int,
   (∃ y76 : Int,
   (Need (E 39 [(.tv [] (.int .i64) (10 : Int)), (.tv [] (.int .i64) x1)] [] (.tv [] (.pair (.int .i64) (.pair .str (.pair (.int .i64) (.pair (.int .i64) (.pair (.int .i64) .unit))))) (y72, (y73, (y74, (y75, (y76, ())))))) []) ∧
   (Q (.tv [] (.pair (.int .i64) (.pair .str (.pair (.int .i64) (.pair (.int .i64) (.pair (.int .i64) .unit))))) (y72, (y73, (y74, (y75, (y76, ())))))) []))))))))))))))))))))))))) ∧
  (((decide (z27 < ((List.length x0) : Int))) = false) →
  (∃ y78 : (List (List Int)),
  (Need (E 22 [] [] (.tv [[]] (.slice .str) y78) []) ∧
  (∃ y79 : (Int → (Int → ((List Int) → (Int → (Int → (Int → Prop)))))),
  (∃ y80 : (Int → (Int → ((List Int) → (Int → (Int → (Int → Nat)))))),
  ((y79 (0 : Int) z28 z29 z30 z31 z32) ∧
  (∀ z81 : Int,
  (∀ z82 : Int,
  (∀ z83 : (List Int),
  (∀ z84 : Int,
  (∀ z85 : Int,
  (∀ z86 : Int,
  ((y79 z81 z82 z83 z84 z85 z86) →
  ((((decide (z81 < ((List.length y78) : Int))) = true) →
   (Need (((0 : Int) ≤ z81) ∧ (z81 < ((List.length y78) : Int))) ∧
   ((((decide ((List.getD y78 (Int.toNat z81) []) = z26)) = true) →
    (Need (((-9223372036854775808 : Int) ≤ (x1 + (1 : Int))) ∧ ((x1 + (1 : Int)) ≤ (9223372036854775807 : Int))) ∧
    (Need (((-9223372036854775808 : Int) ≤ ((x1 + (1 : Int)) + ((List.length z26) : Int))) ∧ (((x1 + (1 : Int)) + ((List.length z26) : Int)) ≤ (9223372036854775807 : Int))) ∧
    (Q (.tv [] (.pair (.int .i64) (.pair .str (.pair (.int .i64) (.pair (.int .i64) (.pair (.int .i64) .unit))))) ((2 : Int), (z26, (((x1 + (1 : Int)) + ((List.length z26) : Int)), ((0 : Int), ((0 : Int), ())))))) [])))) ∧
   (((decide ((List.getD y78 (Int.toNat z81) []) = z26)) = false) →
   (Need (((-9223372036854775808 : Int) ≤ (z81 + (1 : Int))) ∧ ((z81 + (1 : Int)) ≤ (9223372036854775807 : Int))) ∧
   ((y79 (z81 + (1 : Int)) z82 z83 z84 z85 z86) ∧
   Need ((y80 (z81 + (1 : Int)) z82 z83 z84 z85 z86) < (y80 z81 z82 z83 z84 z85 z86)))))))) ∧
  (((decide (z81 < ((List.length y78) : Int))) = false) →
  (∃ y92 : Int,
  (∃ y93 : (List Int),
  (∃ y94 : Int,
  (∃ y95 : Int,
  (∃ y96 : Int,
  (Need (E 39 [(.tv [] (.int .i64) (10 : Int)), (.tv [] (.int .i64) x1)] [] (.tv [] (.pair (.int .i64) (.pair .str (.pair (.int .i64) (.pair (.int .i64) (.pair (.int .i64) .unit))))) (y92, (y93, (y94, (y95, (y96, ())))))) []) ∧
  (Q (.tv [] (.pair (.int .i64) (.pair .str (.pair (.int .i64) (.pair (.int .i64) (.pair (.int .i64) .unit))))) (y92, (y93, (y94, (y95, (y96, ())))))) [])))))))))))))))))))))))))))))))))))))))) ∧
 (((decide ((x1 + (1 : Int)) < ((List.length x0) : Int))) = false) →
 (Need (((-9223372036854775808 : Int) ≤ (x1 + (1 : Int))) ∧ ((x1 + (1 : Int)) ≤ (9223372036854775807 : Int))) ∧
 (∃ y98 : ((List Int) → (Int → (Int → ((List Int) → (Int → (Int → (Int → Prop))))))),
 (∃ y99 : ((List Int) → (Int → (Int → ((List Int) → (Int → (Int → (Int → Nat))))))),
 ((y98 (List.map (fun v100 => (((BitVec.toNat (UInt8.toBitVec v100)) : Nat) : Int)) []) (x1 + (1 : Int)) (0 : Int) [] (0 : Int) (0 : Int) (0 : Int)) ∧
 (∀ z101 : (List Int),
 (∀ z102 : Int,
 (∀ z103 : Int,
 (∀ z104 : (List Int),
 (∀ z105 : Int,
 (∀ z106 : Int,
 (∀ z107 : Int,
 ((y98 z101 z102 z103 z104 z105 z106 z107) →
 ((((decide (z102 < ((List.length x0) : Int))) = true) →
  (Need (((0 : Int) ≤ z102) ∧ (z102 < ((List.length x0) : Int))) ∧
  ((((decide ((97 : Int) ≤ (List.getD x0 (Int.toNat z102) (0 : Int)))) = true) →
   (Need (((0 : Int) ≤ z102) ∧ (z102 < ((List.length x0) : Int))) ∧
   ((((decide ((List.getD x0 (Int.toNat z102) (0 : Int)) ≤ (122 : Int))) = true) →
    (Need (((-9223372036854775808 : Int) ≤ (z102 + (1 : Int))) ∧ ((z102 + (1 : Int)) ≤ (9223372036854775807 : Int))) ∧
    (Need (((0 : Int) ≤ z102) ∧ ((z102 ≤ (z102 + (1 : Int))) ∧ ((z102 + (1 : Int)) ≤ ((List.length x0) : Int)))) ∧
    (Need (((List.length z101) + (List.length (cut x0 (Int.toNat z102) (Int.toNat (z102 + (1 : Int)))))) ≤ bigN) ∧
    (Need (((-9223372036854775808 : Int) ≤ (z102 + (1 : Int))) ∧ ((z102 + (1 : Int)) ≤ (9223372036854775807 : Int))) ∧
    ((y98 (z101 ++ (cut x0 (Int.toNat z102) (Int.toNat (z102 + (1 : Int))))) (z102 + (1 : Int)) z103 z104 z105 z106 z107) ∧
    Need ((y99 (z101 ++ (cut x0 (Int.toNat z102) (Int.toNat (z102 + (1 : Int))))) (z102 + (1 : Int)) z103 z104 z105 z106 z107) < (y99 z101 z102 z103 z104 z105 z106 z107)))))))) ∧
   (((decide ((List.getD x0 (Int.toNat z102) (0 : Int)) ≤ (122 : Int))) = false) →
   (∃ y113 : (List (List Int)),
   (Need (E 22 [] [] (.tv [[]] (.slice .str) y113) []) ∧
   (∃ y114 : (Int → (Int → ((List Int) → (Int → (Int → (Int → Prop)))))),
   (∃ y115 : (Int → (Int → ((List Int) → (Int → (Int → (Int → Nat)))))),
   ((y114 (0 : Int) z103 z104 z105 z106 z107) ∧
   (∀ z116 : Int,
   (∀ z117 : Int,
   (∀ z118 : (List Int),
   (∀ z119 : Int,
   (∀ z120 : Int,
   (∀ z121 : Int,
   ((y114 z116 z117 z118 z119 z120 z121) →
   ((((decide (z116 < ((List.length y113) : Int))) = true) →
    (Need (((0 : Int) ≤ z116) ∧ (z116 < ((List.length y113) : Int))) ∧
    ((((decide ((List.getD y113 (Int.toNat z116) []) = z101)) = true) →
     (Need (((-9223372036854775808 : Int) ≤ (x1 + (1 : Int))) ∧ ((x1 + (1 : Int)) ≤ (9223372036854775807 : Int))) ∧
     (Need (((-9223372036854775808 : Int) ≤ ((x1 + (1 : Int)) + ((List.length z101) : Int))) ∧ (((x1 + (1 : Int)) + ((List.length z101) : Int)) ≤ (9223372036854775807 : Int))) ∧
     (Q (.tv [] (.pair (.int .i64) (.pair .str (.pair (.int .i64) (.pair (.int .i64) (.pair (.int .i64) .unit))))) ((2 : Int), (z101, (((x1 + (1 : Int)) + ((List.length z101) : Int)), ((0 : Int), ((0 : Int), ())))))) [])))) ∧
    (((decide ((List.getD y113 (Int.toNat z116) []) = z101)) = false) →
    (Need (((-9223372036854775808 : Int) ≤ (z116 + (1 : Int))) ∧ ((z116 + (1 : Int)) ≤ (9223372036854775807 : Int))) ∧
    ((y114 (z116 + (1 : Int)) z117 z118 z119 z120 z121) ∧
    Need ((y115 (z116 + (1 : Int)) z117 z118 z119 z120 z121) < (y115 z116 z117 z118 z119 z120 z121)))))))) ∧
   (((decide (z116 < ((List.length y113) : Int))) = false) →
   (∃ y127 : Int,
   (∃ y128 : (List Int),
   (∃ y129 : Int,
   (∃ y130 : Int,
   (∃ y131 : Int,
   (Need (E 39 [(.tv [] (.int .i64) (10 : Int)), (.tv [] (.int .i64) x1)] [] (.tv [] (.pair (.int .i64) (.pair .str (.pair (.int .i64) (.pair (.int .i64) (.pair (.int .i64) .unit))))) (y127, (y128, (y129, (y130, (y131, ())))))) []) ∧
   (Q (.tv [] (.pair (.int .i64) (.pair .str (.pair (.int .i64) (.pair (.int .i64) (.pair (.int .i64) .unit))))) (y127, (y128, (y129, (y130, (y131, ())))))) []))))))))))))))))))))))))) ∧
  (((decide ((97 : Int) ≤ (List.getD x0 (Int.toNat z102) (0 : Int)))) = false) →
  (∃ y133 : (List (List Int)),
  (Need (E 22 [] [] (.tv [[]] (.slice .str) y133) []) ∧
  (∃ y134 : (Int → (Int → ((List Int) → (Int → (Int → (Int → Prop)))))),
  (∃ y135 : (Int → (Int → ((List Int) → (Int → (Int → (Int → Nat)))))),
  ((y134 (0 : Int) z103 z104 z105 z106 z107) ∧
  (∀ z136 : Int,
  (∀ z137 : Int,
  (∀ z138 : (List Int),
  (∀ z139 : Int,
  (∀ z140 : Int,
  (∀ z141 : Int,
  ((y134 z136 z137 z138 z139 z140 z141) →
  ((((decide (z136 < ((List.length y133) : Int))) = true) →
   (Need (((0 : Int) ≤ z136) ∧ (z136 < ((List.length y133) : Int))) ∧
   ((((decide ((List.getD y133 (Int.toNat z136) []) = z101)) = true) →
    (Need (((-9223372036854775808 : Int) ≤ (x1 + (1 : Int))) ∧ ((x1 + (1 : Int)) ≤ (9223372036854775807 : Int))) ∧
    (Need (((-9223372036854775808 : Int) ≤ ((x1 + (1 : Int)) + ((List.length z101) : Int))) ∧ (((x1 + (1 : Int)) + ((List.length z101) : Int)) ≤ (9223372036854775807 : Int))) ∧
    (Q (.tv [] (.pair (.int .i64) (.pair .str (.pair (.int .i64) (.pair (.int .i64) (.pair (.int .i64) .unit))))) ((2 : Int), (z101, (((x1 + (1 : Int)) + ((List.length z101) : Int)), ((0 : Int), ((0 : Int), ())))))) [])))) ∧
   (((decide ((List.getD y133 (Int.toNat z136) []) = z101)) = false) →
   (Need (((-9223372036854775808 : Int) ≤ (z136 + (1 : Int))) ∧ ((z136 + (1 : Int)) ≤ (9223372036854775807 : Int))) ∧
   ((y134 (z136 + (1 : Int)) z137 z138 z139 z140 z141) ∧
   Need ((y135 (z136 + (1 : Int)) z137 z138 z139 z140 z141) < (y135 z136 z137 z138 z139 z140 z141)))))))) ∧
  (((decide (z136 < ((List.length y133) : Int))) = false) →
  (∃ y147 : Int,
  (∃ y148 : (List Int),
  (∃ y149 : Int,
  (∃ y150 : Int,
  (∃ y151 : Int,
  (Need (E 39 [(.tv [] (.int .i64) (10 : Int)), (.tv [] (.int .i64) x1)] [] (.tv [] (.pair (.int .i64) (.pair .str (.pair (.int .i64) (.pair (.int .i64) (.pair (.int .i64) .unit))))) (y147, (y148, (y149, (y150, (y151, ())))))) []) ∧
  (Q (.tv [] (.pair (.int .i64) (.pair .str (.pair (.int .i64) (.pair (.int .i64) (.pair (.int .i64) .unit))))) (y147, (y148, (y149, (y150, (y151, ())))))) []))))))))))))))))))))))))) ∧
 (((decide (z102 < ((List.length x0) : Int))) = false) →
 (∃ y153 : (List (List Int)),
 (Need (E 22 [] [] (.tv [[]] (.slice .str) y153) []) ∧
 (∃ y154 : (Int → (Int → ((List Int) → (Int → (Int → (Int → Prop)))))),
 (∃ y155 : (Int → (Int → ((List Int) → (Int → (Int → (Int → Nat)))))),
 ((y154 (0 : Int) z103 z104 z105 z106 z107) ∧
 (∀ z156 : Int,
 (∀ z157 : Int,
 (∀ z158 : (List Int),
 (∀ z159 : Int,
 (∀ z160 : Int,
 (∀ z161 : Int,
 ((y154 z156 z157 z158 z159 z160 z161) →
 ((((decide (z156 < ((List.length y153) : Int))) = true) →
  (Need (((0 : Int) ≤ z156) ∧ (z156 < ((List.length y153) : Int))) ∧
  ((((decide ((List.getD y153 (Int.toNat z156) []) = z101)) = true) →
   (Need (((-9223372036854775808 : Int) ≤ (x1 + (1 : Int))) ∧ ((x1 + (1 : Int)) ≤ (9223372036854775807 : Int))) ∧
   (Need (((-9223372036854775808 : Int) ≤ ((x1 + (1 : Int)) + ((List.length z101) : Int))) ∧ (((x1 + (1 : Int)) + ((List.length z101) : Int)) ≤ (9223372036854775807 : Int))) ∧
   (Q (.tv [] (.pair (.int .i64) (.pair .str (.pair (.int .i64) (.pair (.int .i64) (.pair (.int .i64) .unit))))) ((2 : Int), (z101, (((x1 + (1 : Int)) + ((List.length z101) : Int)), ((0 : Int), ((0 : Int), ())))))) [])))) ∧
  (((decide ((List.getD y153 (Int.toNat z156) []) = z101)) = false) →
  (Need (((-9223372036854775808 : Int) ≤ (z156 + (1 : Int))) ∧ ((z156 + (1 : Int)) ≤ (9223372036854775807 : Int))) ∧
  ((y154 (z156 + (1 : Int)) z157 z158 z159 z160 z161) ∧
  Need ((y155 (z156 + (1 : Int)) z157 z158 z159 z160 z161) < (y155 z156 z157 z158 z159 z160 z161)))))))) ∧
 (((decide (z156 < ((List.length y153) : Int))) = false) →
 (∃ y167 : Int,
 (∃ y168 : (List Int),
 (∃ y169 : Int,
 (∃ y170 : Int,
 (∃ y171 : Int,
 (Need (E 39 [(.tv [] (.int .i64) (10 : Int)), (.tv [] (.int .i64) x1)] [] (.tv [] (.pair (.int .i64) (.pair .str (.pair (.int .i64) (.pair (.int .i64) (.pair (.int .i64) .unit))))) (y167, (y168, (y169, (y170, (y171, ())))))) []) ∧
 (Q (.tv [] (.pair (.int .i64) (.pair .str (.pair (.int .i64) (.pair (.int .i64) (.pair (.int .i64) .unit))))) (y167, (y168, (y169, (y170, (y171, ())))))) []))))))))))))))))))))))))))))))))))))))) : EvF PP orc 40 [.tv [] .str x0, .tv [] (.int .i64) x1] [] Q := vcF_ok (sg := sg) (Eq.mp (by kernel_rfl) h)
/-- tronage/tronageref05.Next -/
theorem vc24 (x0 : List Int) (x1 : Int) (Q : AV → Heap → Prop) (h :
(Need (((0 : Int) ≤ x1) ∧ (x1 < ((List.length x0) : Int))) ∧
 ((((decide ((List.getD x0 (Int.toNat x1) (0 : Int)) = (32 : Int))) = true) →
  (Need (((-9223372036854775808 : Int) ≤ (x1 + (1 : Int))) ∧ ((x1 + (1 : Int)) ≤ (9223372036854775807 : Int))) ∧
  (Q (.tv [] (.pair (.int .i64) (.pair .str (.pair (.int .i64) (.pair (.int .i64) (.pair (.int .i64) .unit))))) ((-(1 : Int)), (([] : List Int), ((x1 + (1 : Int)), ((0 : Int), ((0 : Int), ())))))) []))) ∧
 (((decide ((List.getD x0 (Int.toNat x1) (0 : Int)) = (32 : Int))) = false) →
 ((((decide ((List.getD x0 (Int.toNat x1) (0 : Int)) = (9 : Int))) = true) →
  (Need (((-9223372036854775808 : Int) ≤ (x1 + (1 : Int))) ∧ ((x1 + (1 : Int)) ≤ (9223372036854775807 : Int))) ∧
  (Q (.tv [] (.pair (.int .i64) (.pair .str (.pair (.int .i64) (.pair (.int .i64) (.pair (.int .i64) .unit))))) ((-(1 : Int)), (([] : List Int), ((x1 + (1 : Int)), ((0 : Int), ((0 : Int), ())))))) []))) ∧
 (((decide ((List.getD x0 (Int.toNat x1) (0 : Int)) = (9 : Int))) = false) →
 ((((decide ((List.getD x0 (Int.toNat x1) (0 : Int)) = (10 : Int))) = true) →
  (Need (((-9223372036854775808 : Int) ≤ (x1 + (1 : Int))) ∧ ((x1 + (1 : Int)) ≤ (9223372036854775807 : Int))) ∧
  (Q (.tv [] (.pair (.int .i64) (.pair .str (.pair (.int .i64) (.pair (.int .i64) (.pair (.int .i64) .unit))))) ((-(1 : Int)), (([] : List Int), ((x1 + (1 : Int)), ((0 : Int), ((0 : Int), ())))))) []))) ∧
 (((decide ((List.getD x0 (Int.toNat x1) (0 : Int)) = (10 : Int))) = false) →
 ((((decide ((List.getD x0 (Int.toNat x1) (0 : Int)) = (13 : Int))) = true) →
  (Need (((-9223372036854775808 : Int) ≤ (x1 + (1 : Int))) ∧ ((x1 + (1 : Int)) ≤ (9223372036854775807 : Int))) ∧
  (Q (.tv [] (.pair (.int .i64) (.pair .str (.pair (.int .i64) (.pair (.int .i64) (.pair (.int .i64) .unit))))) ((-(1 : Int)), (([] : List Int), ((x1 + (1 : Int)), ((0 : Int), ((0 : Int), ())))))) []))) ∧
 (((decide ((List.getD x0 (Int.toNat x1) (0 : Int)) = (13 : Int))) = false) →
 ((((decide ((List.getD x0 (Int.toNat x1) (0 : Int)) = (35 : Int))) = true) →
  (∃ y9 : (Int → Prop),
  (∃ y10 : (Int → Nat),
  ((y9 x1) ∧
  (∀ z11 : Int,
  ((y9 z11) →
  ((((decide (z11 < ((List.length x0) : Int))) = true) →
   (Need (((0 : Int) ≤ z11) ∧ (z11 < ((List.length x0) : Int))) ∧
   ((((decide ((List.getD x0 (Int.toNat z11) (0 : Int)) ≠ (10 : Int))) = true) →
    (Need (((-9223372036854775808 : Int) ≤ (z11 + (1 : Int))) ∧ ((z11 + (1 : Int)) ≤ (9223372036854775807 : Int))) ∧
    (Need (((0 : Int), (([] : List Int), ((0 : Int), ((0 : Int), ((0 : Int), ()))))) = ((0 : Int), (([] : List Int), ((0 : Int), ((0 : Int), ((0 : Int), ())))))) ∧
    ((y9 (z11 + (1 : Int))) ∧
    Need ((y10 (z11 + (1 : Int))) < (y10 z11)))))) ∧
   (((decide ((List.getD x0 (Int.toNat z11) (0 : Int)) ≠ (10 : Int))) = false) →
   (Q (.tv [] (.pair (.int .i64) (.pair .str (.pair (.int .i64) (.pair (.int .i64) (.pair (.int .i64) .unit))))) ((-(1 : Int)), ([], (z11, ((0 : Int), ((0 : Int), ())))))) []))))) ∧
  (((decide (z11 < ((List.length x0) : Int))) = false) →
  (Q (.tv [] (.pair (.int .i64) (.pair .str (.pair (.int .i64) (.pair (.int .i64) (.pair (.int .i64) .unit))))) ((-(1 : Int)), ([], (z11, ((0 : Int), ((0 : Int), ())))))) []))))))))) ∧
 (((decide ((List.getD x0 (Int.toNat x1) (0 : Int)) = (35 : Int))) = false) →
 (∃ y18 : Bool,
 (Need (E 30 [(.tv [] (.int .u8) (List.getD x0 (Int.toNat x1) (0 : Int)))] [] (.tv [] .bool y18) []) ∧
 (((y18 = true) →
  (∃ y20 : (Int → Prop),
  (∃ y21 : (Int → Nat),
  ((y20 x1) ∧
  (∀ z22 : Int,
  ((y20 z22) →
  ((((decide (z22 < ((List.length x0) : Int))) = true) →
   (Need (((0 : Int) ≤ z22) ∧ (z22 < ((List.length x0) : Int))) ∧
   (∃ y25 : Bool,
   (Need (E 30 [(.tv [] (.int .u8) (List.getD x0 (Int.toNat z22) (0 : Int)))] [] (.tv [] .bool y25) []) ∧
   (((y25 = true) →
    (Need (((-9223372036854775808 : Int) ≤ (z22 + (1 : Int))) ∧ ((z22 + (1 : Int)) ≤ (9223372036854775807 : Int))) ∧
    (Need (((0 : Int), (([] : List Int), ((0 : Int), ((0 : Int), ((0 : Int), ()))))) = ((0 : Int), (([] : List Int), ((0 : Int), ((0 : Int), ((0 : Int), ())))))) ∧
    ((y20 (z22 + (1 : Int))) ∧
    Need ((y21 (z22 + (1 : Int))) < (y21 z22)))))) ∧
   ((y25 = false) →
   (Need (((0 : Int) ≤ z22) ∧ (z22 < ((List.length x0) : Int))) ∧
   (∃ y28 : Bool,
   (Need (E 31 [(.tv [] (.int .u8) (List.getD x0 (Int.toNat z22) (0 : Int)))] [] (.tv [] .bool y28) []) ∧
   (((y28 = true) →
    (Need (((-9223372036854775808 : Int) ≤ (z22 + (1 : Int))) ∧ ((z22 + (1 : Int)) ≤ (9223372036854775807 : Int))) ∧
    (Need (((0 : Int), (([] : List Int), ((0 : Int), ((0 : Int), ((0 : Int), ()))))) = ((0 : Int), (([] : List Int), ((0 : Int), ((0 : Int), ((0 : Int), ())))))) ∧
    ((y20 (z22 + (1 : Int))) ∧
    Need ((y21 (z22 + (1 : Int))) < (y21 z22)))))) ∧
   ((y28 = false) →
   (Need (((-9223372036854775808 : Int) ≤ (z22 - x1)) ∧ ((z22 - x1) ≤ (9223372036854775807 : Int))) ∧
   ((((decide ((32 : Int) < (z22 - x1))) = true) →
    (∃ y32 : Int,
    (∃ y33 : (List Int),
    (∃ y34 : Int,
    (∃ y35 : Int,
    (∃ y36 : Int,
    (Need (E 39 [(.tv [] (.int .i64) (12 : Int)), (.tv [] (.int .i64) x1)] [] (.tv [] (.pair (.int .i64) (.pair .str (.pair (.int .i64) (.pair (.int .i64) (.pair (.int .i64) .unit))))) (y32, (y33, (y34, (y35, (y36, ())))))) []) ∧
    (Q (.tv [] (.pair (.int .i64) (.pair .str (.pair (.int .i64) (.pair (.int .i64) (.pair (.int .i64) .unit))))) (y32, (y33, (y34, (y35, (y36, ())))))) [])))))))) ∧
   (((decide ((32 : Int) < (z22 - x1))) = false) →
   (Need (((0 : Int) ≤ x1) ∧ ((x1 ≤ z22) ∧ (z22 ≤ ((List.length x0) : Int)))) ∧
   (Q (.tv [] (.pair (.int .i64) (.pair .str (.pair (.int .i64) (.pair (.int .i64) (.pair (.int .i64) .unit))))) ((1 : Int), ((cut x0 (Int.toNat x1) (Int.toNat z22)), (z22, ((0 : Int), ((0 : Int), ())))))) [])))))))))))))))) ∧
  (((decide (z22 < ((List.length x0) : Int))) = false) →
  (Need (((-9223372036854775808 : Int) ≤ (z22 - x1)) ∧ ((z22 - x1) ≤ (9223372036854775807 : Int))) ∧
  ((((decide ((32 : Int) < (z22 - x1))) = true) →
   (∃ y40 : Int,
   (∃ y41 : (List Int),
   (∃ y42 : Int,
   (∃ y43 : Int,
   (∃ y44 : Int,
   (Need (E 39 [(.tv [] (.int .i64) (12 : Int)), (.tv [] (.int .i64) x1)] [] (.tv [] (.pair (.int .i64) (.pair .str (.pair (.int .i64) (.pair (.int .i64) (.pair (.int .i64) .unit))))) (y40, (y41, (y42, (y43, (y44, ())))))) []) ∧
   (Q (.tv [] (.pair (.int .i64) (.pair .str (.pair (.int .i64) (.pair (.int .i64) (.pair (.int .i64) .unit))))) (y40, (y41, (y42, (y43, (y44, ())))))) [])))))))) ∧
  (((decide ((32 : Int) < (z22 - x1))) = false) →
  (Need (((0 : Int) ≤ x1) ∧ ((x1 ≤ z22) ∧ (z22 ≤ ((List.length x0) : Int)))) ∧
  (Q (.tv [] (.pair (.int .i64) (.pair .str (.pair (.int .i64) (.pair (.int .i64) (.pair (.int .i64) .unit))))) ((1 : Int), ((cut x0 (Int.toNat x1) (Int.toNat z22)), (z22, ((0 : Int), ((0 : Int), ())))))) []))))))))))))) ∧
 ((y18 = false) →
 ((((decide ((List.getD x0 (Int.toNat x1) (0 : Int)) = (37 : Int))) = true) →
  (∃ y48 : Int,
  (∃ y49 : (List Int),
  (∃ y50 : Int,
  (∃ y51 : Int,
  (∃ y52 : Int,
  (Need (E 40 [(.tv [] .str x0), (.tv [] (.int .i64) x1)] [] (.tv [] (.pair (.int .i64) (.pair .str (.pair (.int .i64) (.pair (.int .i64) (.pair (.int .i64) .unit))))) (y48, (y49, (y50, (y51, (y52, ())))))) []) ∧
  (Q (.tv [] (.pair (.int .i64) (.pair .str (.pair (.int .i64) (.pair (.int .i64) (.pair (.int .i64) .unit))))) (y48, (y49, (y50, (y51, (y52, ())))))) [])))))))) ∧
 (((decide ((List.getD x0 (Int.toNat x1) (0 : Int)) = (37 : Int))) = false) →
 ((((decide ((List.getD x0 (Int.toNat x1) (0 : Int)) = (34 : Int))) = true) →
  (∃ y55 : Int,
  (∃ y56 : (List Int),
  (∃ y57 : Int,
  (∃ y58 : Int,
  (∃ y59 : Int,
  (Need (E 41 [(.tv [] .str x0), (.tv [] (.int .i64) x1)] [] (.tv [] (.pair (.int .i64) (.pair .str (.pair (.int .i64) (.pair (.int .i64) (.pair (.int .i64) .unit))))) (y55, (y56, (y57, (y58, (y59, ())))))) []) ∧
  (Q (.tv [] (.pair (.int .i64) (.pair .str (.pair (.int .i64) (.pair (.int .i64) (.pair (.int .i64) .unit))))) (y55, (y56, (y57, (y58, (y59, ())))))) [])))))))) ∧
 (((decide ((List.getD x0 (Int.toNat x1) (0 : Int)) = (34 : Int))) = false) →
 ((((decide ((List.getD x0 (Int.toNat x1) (0 : Int)) = (91 : Int))) = true) →
  (∃ y62 : Int,
  (∃ y63 : (List Int),
  (∃ y64 : Int,
  (∃ y65 : Int,
  (∃ y66 : Int,
  (Need (E 42 [(.tv [] .str x0), (.tv [] (.int .i64) x1)] [] (.tv [] (.pair (.int .i64) (.pair .str (.pair (.int .i64) (.pair (.int .i64) (.pair (.int .i64) .unit))))) (y62, (y63, (y64, (y65, (y66, ())))))) []) ∧
  (Q (.tv [] (.pair (.int .i64) (.pair .str (.pair (.int .i64) (.pair (.int .i64) (.pair (.int .i64) .unit))))) (y62, (y63, (y64, (y65, (y66, ())))))) [])))))))) ∧
 (((decide ((List.getD x0 (Int.toNat x1) (0 : Int)) = (91 : Int))) = false) →
 ((((decide ((List.getD x0 (Int.toNat x1) (0 : Int)) = (123 : Int))) = true) →
  (∃ y69 : Int,
  (∃ y70 : (List Int),
  (∃ y71 : Int,
  (∃ y72 : Int,
  (∃ y73 : Int,
  (Need (E 43 [(.tv [] .str x0), (.tv [] (.int .i64) x1)] [] (.tv [] (.pair (.int .i64) (.pair .str (.pair (.int .i64) (.pair (.int .i64) (.pair (.int .i64) .unit))))) (y69, (y70, (y71, (y72, (y73, ())))))) []) ∧
  (Q (.tv [] (.pair (.int .i64) (.pair .str (.pair (.int .i64) (.pair (.int .i64) (.pair (.int .i64) .unit))))) (y69, (y70, (y71, (y72, (y73, ())))))) [])))))))) ∧
 (((decide ((List.getD x0 (Int.toNat x1) (0 : Int)) = (123 : Int))) = false) →
 ((((decide ((List.getD x0 (Int.toNat x1) (0 : Int)) = (43 : Int))) = true) →
  (Need (((-9223372036854775808 : Int) ≤ (x1 + (1 : Int))) ∧ ((x1 + (1 : Int)) ≤ (9223372036854775807 : Int))) ∧
  (Q (.tv [] (.pair (.int .i64) (.pair .str (.pair (.int .i64) (.pair (.int .i64) (.pair (.int .i64) .unit))))) ((5 : Int), (([] : List Int), ((x1 + (1 : Int)), ((0 : Int), ((0 : Int), ())))))) []))) ∧
 (((decide ((List.getD x0 (Int.toNat x1) (0 : Int)) = (43 : Int))) = false) →
 ((((decide ((List.getD x0 (Int.toNat x1) (0 : Int)) = (58 : Int))) = true) →
  (Need (((-9223372036854775808 : Int) ≤ (x1 + (1 : Int))) ∧ ((x1 + (1 : Int)) ≤ (9223372036854775807 : Int))) ∧
  (Q (.tv [] (.pair (.int .i64) (.pair .str (.pair (.int .i64) (.pair (.int .i64) (.pair (.int .i64) .unit))))) ((6 : Int), (([] : List Int), ((x1 + (1 : Int)), ((0 : Int), ((0 : Int), ())))))) []))) ∧
 (((decide ((List.getD x0 (Int.toNat x1) (0 : Int)) = (58 : Int))) = false) →
 ((((decide ((List.getD x0 (Int.toNat x1) (0 : Int)) = (124 : Int))) = true) →
  (Need (((-9223372036854775808 : Int) ≤ (x1 + (1 : Int))) ∧ ((x1 + (1 : Int)) ≤ (9223372036854775807 : Int))) ∧
  (Q (.tv [] (.pair (.int .i64) (.pair .str (.pair (.int .i64) (.pair (.int .i64) (.pair (.int .i64) .unit))))) ((7 : Int), (([] : List Int), ((x1 + (1 : Int)), ((0 : Int), ((0 : Int), ())))))) []))) ∧
 (((decide ((List.getD x0 (Int.toNat x1) (0 : Int)) = (124 : Int))) = false) →
 ((((decide ((List.getD x0 (Int.toNat x1) (0 : Int)) = (59 : Int))) = true) →
  (Need (((-9223372036854775808 : Int) ≤ (x1 + (1 : Int))) ∧ ((x1 + (1 : Int)) ≤ (9223372036854775807 : Int))) ∧
  (Q (.tv [] (.pair (.int .i64) (.pair .str (.pair (.int .i64) (.pair (.int .i64) (.pair (.int .i64) .unit))))) ((8 : Int), (([] : List Int), ((x1 + (1 : Int)), ((0 : Int), ((0 : Int), ())))))) []))) ∧
 (((decide ((List.getD x0 (Int.toNat x1) (0 : Int)) = (59 : Int))) = false) →
 (∃ y83 : Int,
 (∃ y84 : (List Int),
 (∃ y85 : Int,
 (∃ y86 : Int,
 (∃ y87 : Int,
 (Need (E 39 [(.tv [] (.int .i64) (10 : Int)), (.tv [] (.int .i64) x1)] [] (.tv [] (.pair (.int .i64) (.pair .str (.pair (.int .i64) (.pair (.int .i64) (.pair (.int .i64) .unit))))) (y83, (y84, (y85, (y86, (y87, ())))))) []) ∧
 (Q (.tv [] (.pair (.int .i64) (.pair .str (.pair (.int .i64) (.pair (.int .i64) (.pair (.int .i64) .unit))))) (y83, (y84, (y85, (y86, (y87, ())))))) []))))))))))))))))))))))))))))))))))))))) : EvF PP orc 24 [.tv [] .str x0, .tv [] (.int .i64) x1] [] Q := vcF_ok (sg := sg) (Eq.mp (by kernel_rfl) h)
/-- tronage/tronageref05.Lex -/
theorem vc12 (x0 : List Int) (Q : AV → Heap → Prop) (h :
((((decide ((4000 : Int) < ((List.length x0) : Int))) = true) →
  (Q (.tup [(.tv [] (.slice (.pair (.int .i64) (.pair .str (.pair (.pair (.int .i64) (.pair (.int .i64) .unit)) .unit)))) []), (.tv [] (.pair (.int .i64) (.pair (.pair (.int .i64) (.pair (.int .i64) .unit)) .unit)) ((12 : Int), (((1 : Int), ((1 : Int), ())), ())))]) [])) ∧
 (((decide ((4000 : Int) < ((List.length x0) : Int))) = false) →
 (∃ y2 : ((List (Prod Int (Prod (List Int) (Prod (Prod Int (Prod Int PUnit)) PUnit)))) → (Int → (Int → (Int → (Int → Prop))))),
 (∃ y3 : ((List (Prod Int (Prod (List Int) (Prod (Prod Int (Prod Int PUnit)) PUnit)))) → (Int → (Int → (Int → (Int → Nat))))),
 ((y2 [] (0 : Int) (0 : Int) (0 : Int) (0 : Int)) ∧
 (∀ z4 : (List (Prod Int (Prod (List Int) (Prod (Prod Int (Prod Int PUnit)) PUnit)))),
 (∀ z5 : Int,
 (∀ z6 : Int,
 (∀ z7 : Int,
 (∀ z8 : Int,
 ((y2 z4 z5 z6 z7 z8) →
 ((((decide (z5 < ((List.length x0) : Int))) = true) →
  (∃ y11 : Int,
  (∃ y12 : (List Int),
  (∃ y13 : Int,
  (∃ y14 : Int,
  (∃ y15 : Int,
  (Need (E 24 [(.tv [] .str x0), (.tv [] (.int .i64) z5)] [] (.tv [] (.pair (.int .i64) (.pair .str (.pair (.int .i64) (.pair (.int .i64) (.pair (.int .i64) .unit))))) (y11, (y12, (y13, (y14, (y15, ())))))) []) ∧
  ((((decide (y14 ≠ (0 : Int))) = true) →
   (∃ y17 : Int,
   (∃ y18 : Int,
   (Need (E 18 [(.tv [] .str x0), (.tv [] (.int .i64) y15)] [] (.tv [] (.pair (.int .i64) (.pair (.int .i64) .unit)) (y17, (y18, ()))) []) ∧
   (Q (.tup [(.tv [] (.slice (.pair (.int .i64) (.pair .str (.pair (.pair (.int .i64) (.pair (.int .i64) .unit)) .unit)))) []), (.tv [] (.pair (.int .i64) (.pair (.pair (.int .i64) (.pair (.int .i64) .unit)) .unit)) (y14, ((y17, (y18, ())), ())))]) []))))) ∧
  (((decide (y14 ≠ (0 : Int))) = false) →
  ((((decide ((0 : Int) ≤ y11)) = true) →
   (∃ y21 : Int,
   (∃ y22 : Int,
   (Need (E 18 [(.tv [] .str x0), (.tv [] (.int .i64) z5)] [] (.tv [] (.pair (.int .i64) (.pair (.int .i64) .unit)) (y21, (y22, ()))) []) ∧
   (Need (((List.length z4) + (List.length [(y11, (y12, ((y21, (y22, ())), ())))])) ≤ bigN) ∧
   ((y2 (z4 ++ [(y11, (y12, ((y21, (y22, ())), ())))]) y13 z6 z7 z8) ∧
   Need ((y3 (z4 ++ [(y11, (y12, ((y21, (y22, ())), ())))]) y13 z6 z7 z8) < (y3 z4 z5 z6 z7 z8)))))))) ∧
  (((decide ((0 : Int) ≤ y11)) = false) →
  ((y2 z4 y13 z6 z7 z8) ∧
  Need ((y3 z4 y13 z6 z7 z8) < (y3 z4 z5 z6 z7 z8)))))))))))))) ∧
 (((decide (z5 < ((List.length x0) : Int))) = false) →
 (∃ y25 : Int,
 (∃ y26 : Int,
 (Need (E 18 [(.tv [] .str x0), (.tv [] (.int .i64) ((List.length x0) : Int))] [] (.tv [] (.pair (.int .i64) (.pair (.int .i64) .unit)) (y25, (y26, ()))) []) ∧
 (Need (((List.length z4) + (List.length [((0 : Int), (([] : List Int), ((y25, (y26, ())), ())))])) ≤ bigN) ∧
 (Q (.tup [(.tv [] (.slice (.pair (.int .i64) (.pair .str (.pair (.pair (.int .i64) (.pair (.int .i64) .unit)) .unit)))) (z4 ++ [((0 : Int), (([] : List Int), ((y25, (y26, ())), ())))])), (.tv [] (.pair (.int .i64) (.pair (.pair (.int .i64) (.pair (.int .i64) .unit)) .unit)) ((0 : Int), (((0 : Int), ((0 : Int), ())), ())))]) []))))))))))))))))))) : EvF PP orc 12 [.tv [] .str x0] [] Q := vcF_ok (sg := sg) (Eq.mp (by kernel_rfl) h)
/-- tronage/tronageref05.Marks -/
theorem vc13 (x0 : List ((Int × (List Int × ((Int × (Int × Unit)) × Unit))))) (x1 : List ((Int × (List Int × ((Int × (Int × Unit)) × Unit))))) (Q : AV → Heap → Prop) (h :
((((decide (((List.length x0) : Int) ≠ ((List.length x1) : Int))) = true) →
  (Q (.tv [] .bool false) [])) ∧
 (((decide (((List.length x0) : Int) ≠ ((List.length x1) : Int))) = false) →
 (∃ y2 : (Int → Prop),
 (∃ y3 : (Int → Nat),
 ((y2 (0 : Int)) ∧
 (∀ z4 : Int,
 ((y2 z4) →
 ((((decide (z4 < ((List.length x0) : Int))) = true) →
  (Need (((0 : Int) ≤ z4) ∧ (z4 < ((List.length x0) : Int))) ∧
  (Need (((0 : Int) ≤ z4) ∧ (z4 < ((List.length x1) : Int))) ∧
  ((((!((decide ((List.getD x0 (Int.toNat z4) ((0 : Int), (([] : List Int), (((0 : Int), ((0 : Int), ())), ())))).1 = (List.getD x1 (Int.toNat z4) ((0 : Int), (([] : List Int), (((0 : Int), ((0 : Int), ())), ())))).1)) && ((decide ((List.getD x0 (Int.toNat z4) ((0 : Int), (([] : List Int), (((0 : Int), ((0 : Int), ())), ())))).2.1 = (List.getD x1 (Int.toNat z4) ((0 : Int), (([] : List Int), (((0 : Int), ((0 : Int), ())), ())))).2.1)) && (((decide ((List.getD x0 (Int.toNat z4) ((0 : Int), (([] : List Int), (((0 : Int), ((0 : Int), ())), ())))).2.2.1.1 = (List.getD x1 (Int.toNat z4) ((0 : Int), (([] : List Int), (((0 : Int), ((0 : Int), ())), ())))).2.2.1.1)) && ((decide ((List.getD x0 (Int.toNat z4) ((0 : Int), (([] : List Int), (((0 : Int), ((0 : Int), ())), ())))).2.2.1.2.1 = (List.getD x1 (Int.toNat z4) ((0 : Int), (([] : List Int), (((0 : Int), ((0 : Int), ())), ())))).2.2.1.2.1)) && true)) && true)))) = true) →
   (Q (.tv [] .bool false) [])) ∧
  (((!((decide ((List.getD x0 (Int.toNat z4) ((0 : Int), (([] : List Int), (((0 : Int), ((0 : Int), ())), ())))).1 = (List.getD x1 (Int.toNat z4) ((0 : Int), (([] : List Int), (((0 : Int), ((0 : Int), ())), ())))).1)) && ((decide ((List.getD x0 (Int.toNat z4) ((0 : Int), (([] : List Int), (((0 : Int), ((0 : Int), ())), ())))).2.1 = (List.getD x1 (Int.toNat z4) ((0 : Int), (([] : List Int), (((0 : Int), ((0 : Int), ())), ())))).2.1)) && (((decide ((List.getD x0 (Int.toNat z4) ((0 : Int), (([] : List Int), (((0 : Int), ((0 : Int), ())), ())))).2.2.1.1 = (List.getD x1 (Int.toNat z4) ((0 : Int), (([] : List Int), (((0 : Int), ((0 : Int), ())), ())))).2.2.1.1)) && ((decide ((List.getD x0 (Int.toNat z4) ((0 : Int), (([] : List Int), (((0 : Int), ((0 : Int), ())), ())))).2.2.1.2.1 = (List.getD x1 (Int.toNat z4) ((0 : Int), (([] : List Int), (((0 : Int), ((0 : Int), ())), ())))).2.2.1.2.1)) && true)) && true)))) = false) →
  (Need (((-9223372036854775808 : Int) ≤ (z4 + (1 : Int))) ∧ ((z4 + (1 : Int)) ≤ (9223372036854775807 : Int))) ∧
  ((y2 (z4 + (1 : Int))) ∧
  Need ((y3 (z4 + (1 : Int))) < (y3 z4))))))))) ∧
 (((decide (z4 < ((List.length x0) : Int))) = false) →
 (Q (.tv [] .bool true) []))))))))))) : EvF PP orc 13 [.tv [] (.slice (.pair (.int .i64) (.pair .str (.pair (.pair (.int .i64) (.pair (.int .i64) .unit)) .unit)))) x0, .tv [] (.slice (.pair (.int .i64) (.pair .str (.pair (.pair (.int .i64) (.pair (.int .i64) .unit)) .unit)))) x1] [] Q := vcF_ok (sg := sg) (Eq.mp (by kernel_rfl) h)
end Go.Am.L
