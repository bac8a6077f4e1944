/-
  A part of the proof of a law: see the text that states it.
-/
import Derived.Test.YtfnnapgpcndcjaaDoorHead
set_option linter.all false
namespace Go.Am.V
open Go
set_option maxRecDepth 100000
set_option maxHeartbeats 4000000
/-- tronage/tronagelaw22.awake -/
theorem vc7  (Q : AV → Heap → Prop) (h :
(∃ y0 : XT,
 (∃ y1 : Int,
 (∃ y2 : Int,
 (Need (E 15 [(.tv [] .str (List.map (fun v3 => (((BitVec.toNat (UInt8.toBitVec v3)) : Nat) : Int)) [(36 : UInt8), (49 : UInt8), (32 : UInt8), (47 : UInt8), (32 : UInt8), (36 : UInt8), (50 : UInt8)]))] [] (.tup [(.tv [] .expr y0), (.tv [] (.int .i64) y1), (.tv [] (.int .i64) y2)]) []) ∧
 (∃ y4 : XT,
 (∃ y5 : Int,
 (∃ y6 : Int,
 (Need (E 15 [(.tv [] .str (List.map (fun v7 => (((BitVec.toNat (UInt8.toBitVec v7)) : Nat) : Int)) [(64 : UInt8), (49 : UInt8), (32 : UInt8), (43 : UInt8), (32 : UInt8), (49 : UInt8)]))] [] (.tup [(.tv [] .expr y4), (.tv [] (.int .i64) y5), (.tv [] (.int .i64) y6)]) []) ∧
 (∃ y8 : (List (Prod Int (Prod Int PUnit))),
 (Need (E 12 [(.tv [] .expr y0)] [] (.tv [[]] (.slice (.pair (.int .i64) (.pair (.int .i64) .unit))) y8) []) ∧
 (∃ y9 : Int,
 (∃ y10 : Int,
 (Need (E 16 [(.tv [] (.int .i64) (7 : Int))] [] (.tv [] (.pair (.int .i64) (.pair (.int .i64) .unit)) (y9, (y10, ()))) []) ∧
 (∃ y11 : Int,
 (∃ y12 : Int,
 (Need (E 16 [(.tv [] (.int .i64) (0 : Int))] [] (.tv [] (.pair (.int .i64) (.pair (.int .i64) .unit)) (y11, (y12, ()))) []) ∧
 (∃ y13 : Int,
 (∃ y14 : Int,
 (Need (E 11 [(.tv [] (.slice (.pair (.int .i64) (.pair (.int .i64) .unit))) y8), (.tv [] (.slice (.pair (.int .i64) (.pair (.int .i64) .unit))) [(y9, (y10, ())), (y11, (y12, ()))]), (.tv [] (.slice (.int .i64)) [(0 : Int), (1 : Int)])] [] (.tv [] (.pair (.int .i64) (.pair (.int .i64) .unit)) (y13, (y14, ()))) []) ∧
 (∃ y15 : Int,
 (∃ y16 : Int,
 (Need (E 16 [(.tv [] (.int .i64) (7 : Int))] [] (.tv [] (.pair (.int .i64) (.pair (.int .i64) .unit)) (y15, (y16, ()))) []) ∧
 (∃ y17 : Int,
 (∃ y18 : Int,
 (Need (E 16 [(.tv [] (.int .i64) (-(2 : Int)))] [] (.tv [] (.pair (.int .i64) (.pair (.int .i64) .unit)) (y17, (y18, ()))) []) ∧
 (∃ y19 : Int,
 (∃ y20 : Int,
 (Need (E 11 [(.tv [] (.slice (.pair (.int .i64) (.pair (.int .i64) .unit))) y8), (.tv [] (.slice (.pair (.int .i64) (.pair (.int .i64) .unit))) [(y15, (y16, ())), (y17, (y18, ()))]), (.tv [] (.slice (.int .i64)) [(0 : Int), (1 : Int)])] [] (.tv [] (.pair (.int .i64) (.pair (.int .i64) .unit)) (y19, (y20, ()))) []) ∧
 (∃ y21 : (List (Prod Int (Prod Int PUnit))),
 (Need (E 12 [(.tv [] .expr y4)] [] (.tv [[]] (.slice (.pair (.int .i64) (.pair (.int .i64) .unit))) y21) []) ∧
 (∃ y22 : Int,
 (∃ y23 : Int,
 (Need (E 16 [(.tv [] (.int .i64) (7 : Int))] [] (.tv [] (.pair (.int .i64) (.pair (.int .i64) .unit)) (y22, (y23, ()))) []) ∧
 (∃ y24 : Int,
 (∃ y25 : Int,
 (Need (E 11 [(.tv [] (.slice (.pair (.int .i64) (.pair (.int .i64) .unit))) y21), (.tv [] (.slice (.pair (.int .i64) (.pair (.int .i64) .unit))) [(y22, (y23, ()))]), (.tv [] (.slice (.int .i64)) [(0 : Int)])] [] (.tv [] (.pair (.int .i64) (.pair (.int .i64) .unit)) (y24, (y25, ()))) []) ∧
 (∃ y26 : Int,
 (∃ y27 : Int,
 (Need (E 8 [(.tv [] .str (List.map (fun v28 => (((BitVec.toNat (UInt8.toBitVec v28)) : Nat) : Int)) [(49 : UInt8), (50 : UInt8)]))] [] (.tv [] (.pair (.int .i64) (.pair (.int .i64) .unit)) (y26, (y27, ()))) []) ∧
 (∃ y29 : Int,
 (∃ y30 : Int,
 (Need (E 16 [(.tv [] (.int .i64) (12 : Int))] [] (.tv [] (.pair (.int .i64) (.pair (.int .i64) .unit)) (y29, (y30, ()))) []) ∧
 (((((decide (y26 = y29)) && ((decide (y27 = y30)) && true)) = true) →
  (∃ y32 : Int,
  (∃ y33 : Int,
  (Need (E 8 [(.tv [] .str (List.map (fun v34 => (((BitVec.toNat (UInt8.toBitVec v34)) : Nat) : Int)) [(97 : UInt8), (98 : UInt8)]))] [] (.tv [] (.pair (.int .i64) (.pair (.int .i64) .unit)) (y32, (y33, ()))) []) ∧
  (∃ y35 : Int,
  (∃ y36 : Int,
  (Need (E 16 [(.tv [] (.int .i64) (2 : Int))] [] (.tv [] (.pair (.int .i64) (.pair (.int .i64) .unit)) (y35, (y36, ()))) []) ∧
  (((((decide (y32 = y35)) && ((decide (y33 = y36)) && true)) = true) →
   (∃ y38 : Int,
   (∃ y39 : Int,
   (Need (E 8 [(.tv [] .str (List.map (fun v40 => (((BitVec.toNat (UInt8.toBitVec v40)) : Nat) : Int)) [(49 : UInt8), (56 : UInt8), (52 : UInt8), (52 : UInt8), (54 : UInt8), (55 : UInt8), (52 : UInt8), (52 : UInt8), (48 : UInt8), (55 : UInt8), (51 : UInt8), (55 : UInt8), (48 : UInt8), (57 : UInt8), (53 : UInt8), (53 : UInt8), (49 : UInt8), (54 : UInt8), (49 : UInt8), (53 : UInt8)]))] [] (.tv [] (.pair (.int .i64) (.pair (.int .i64) .unit)) (y38, (y39, ()))) []) ∧
   (∃ y41 : Int,
   (∃ y42 : Int,
   (Need (E 16 [(.tv [] (.int .i64) (-(1 : Int)))] [] (.tv [] (.pair (.int .i64) (.pair (.int .i64) .unit)) (y41, (y42, ()))) []) ∧
   (((((decide (y38 = y41)) && ((decide (y39 = y42)) && true)) = true) →
    (((((decide (y13 = (3 : Int))) && ((decide (y14 = (32 : Int))) && true)) = true) →
     (∃ y45 : Int,
     (∃ y46 : Int,
     (Need (E 16 [(.tv [] (.int .i64) (-(3 : Int)))] [] (.tv [] (.pair (.int .i64) (.pair (.int .i64) .unit)) (y45, (y46, ()))) []) ∧
     (((((decide (y19 = y45)) && ((decide (y20 = y46)) && true)) = true) →
      (Q (.tv [] .bool ((decide (y24 = (3 : Int))) && ((decide (y25 = (33 : Int))) && true))) [])) ∧
     ((((decide (y19 = y45)) && ((decide (y20 = y46)) && true)) = false) →
     (Q (.tv [] .bool false) []))))))) ∧
    ((((decide (y13 = (3 : Int))) && ((decide (y14 = (32 : Int))) && true)) = false) →
    (Q (.tv [] .bool false) [])))) ∧
   ((((decide (y38 = y41)) && ((decide (y39 = y42)) && true)) = false) →
   (Q (.tv [] .bool false) [])))))))))) ∧
  ((((decide (y32 = y35)) && ((decide (y33 = y36)) && true)) = false) →
  (Q (.tv [] .bool false) [])))))))))) ∧
 ((((decide (y26 = y29)) && ((decide (y27 = y30)) && true)) = false) →
 (Q (.tv [] .bool false) [])))))))))))))))))))))))))))))))))))))))))))))) : EvF PP orc 7 [] [] Q := vcF_ok (sg := sg) (Eq.mp (by kernel_rfl) h)
end Go.Am.V
