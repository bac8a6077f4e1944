/-
  A part of the proof of a law: see the text that states it.
-/
import Derived.Test.YtcggbplapaeedaaDoorHead
set_option linter.all false
namespace Go.Am.R
open Go
set_option maxRecDepth 100000
set_option maxHeartbeats 4000000
theorem vc51 (x0 : List Int) (x1 : Int) (Q : AV → Heap → Prop) (h :
(Need ((0 ≤ x1) ∧ (x1 < (x0.length : Int))) ∧
 ((((decide ((List.getD x0 x1.toNat (0 : Int)) = (32 : Int))) = true) →
 (Need ((-9223372036854775808 ≤ (x1 + 1)) ∧ ((x1 + 1) ≤ 9223372036854775807)) ∧
 (Q (.tup [(.tv [] (.int .i64) (0 : Int)), (.tv [] .str (List.map (fun v1 => (((BitVec.toNat (UInt8.toBitVec v1)) : Nat) : Int)) [])), (.tv [] (.int .i64) (x1 + 1)), (.tv [] .bool false), (.tv [] .ref (Option.none ))]) []))) ∧
 (((decide ((List.getD x0 x1.toNat (0 : Int)) = (32 : Int))) = false) →
 ((((decide ((List.getD x0 x1.toNat (0 : Int)) = (9 : Int))) = true) →
 (Need ((-9223372036854775808 ≤ (x1 + 1)) ∧ ((x1 + 1) ≤ 9223372036854775807)) ∧
 (Q (.tup [(.tv [] (.int .i64) (0 : Int)), (.tv [] .str (List.map (fun v4 => (((BitVec.toNat (UInt8.toBitVec v4)) : Nat) : Int)) [])), (.tv [] (.int .i64) (x1 + 1)), (.tv [] .bool false), (.tv [] .ref (Option.none ))]) []))) ∧
 (((decide ((List.getD x0 x1.toNat (0 : Int)) = (9 : Int))) = false) →
 ((((decide ((List.getD x0 x1.toNat (0 : Int)) = (10 : Int))) = true) →
 (Need ((-9223372036854775808 ≤ (x1 + 1)) ∧ ((x1 + 1) ≤ 9223372036854775807)) ∧
 (Q (.tup [(.tv [] (.int .i64) (0 : Int)), (.tv [] .str (List.map (fun v7 => (((BitVec.toNat (UInt8.toBitVec v7)) : Nat) : Int)) [])), (.tv [] (.int .i64) (x1 + 1)), (.tv [] .bool false), (.tv [] .ref (Option.none ))]) []))) ∧
 (((decide ((List.getD x0 x1.toNat (0 : Int)) = (10 : Int))) = false) →
 ((((decide ((List.getD x0 x1.toNat (0 : Int)) = (13 : Int))) = true) →
 (Need ((-9223372036854775808 ≤ (x1 + 1)) ∧ ((x1 + 1) ≤ 9223372036854775807)) ∧
 (Q (.tup [(.tv [] (.int .i64) (0 : Int)), (.tv [] .str (List.map (fun v10 => (((BitVec.toNat (UInt8.toBitVec v10)) : Nat) : Int)) [])), (.tv [] (.int .i64) (x1 + 1)), (.tv [] .bool false), (.tv [] .ref (Option.none ))]) []))) ∧
 (((decide ((List.getD x0 x1.toNat (0 : Int)) = (13 : Int))) = false) →
 ((((decide ((List.getD x0 x1.toNat (0 : Int)) = (35 : Int))) = true) →
 (Need ((0 ≤ x1) ∧ ((x1 ≤ (x0.length : Int)) ∧ ((x0.length : Int) ≤ (x0.length : Int)))) ∧
 (∃ y13 : Int,
 (Need (E 64 [(.tv [] .str (cut x0 x1.toNat (Int.toNat (x0.length : Int)))), (.tv [] (.int .u8) (10 : Int))] [] (.tv [] (.int .i64) y13) []) ∧
 ((((decide (y13 < 0)) = true) →
 (Need ((-9223372036854775808 ≤ ((x0.length : Int) - x1)) ∧ (((x0.length : Int) - x1) ≤ 9223372036854775807)) ∧
 (Need ((-9223372036854775808 ≤ (x1 + ((x0.length : Int) - x1))) ∧ ((x1 + ((x0.length : Int) - x1)) ≤ 9223372036854775807)) ∧
 (Q (.tup [(.tv [] (.int .i64) (0 : Int)), (.tv [] .str (List.map (fun v15 => (((BitVec.toNat (UInt8.toBitVec v15)) : Nat) : Int)) [])), (.tv [] (.int .i64) (x1 + ((x0.length : Int) - x1))), (.tv [] .bool false), (.tv [] .ref (Option.none ))]) [])))) ∧
 (((decide (y13 < 0)) = false) →
 (Need ((-9223372036854775808 ≤ (x1 + y13)) ∧ ((x1 + y13) ≤ 9223372036854775807)) ∧
 (Q (.tup [(.tv [] (.int .i64) (0 : Int)), (.tv [] .str (List.map (fun v17 => (((BitVec.toNat (UInt8.toBitVec v17)) : Nat) : Int)) [])), (.tv [] (.int .i64) (x1 + y13)), (.tv [] .bool false), (.tv [] .ref (Option.none ))]) [])))))))) ∧
 (((decide ((List.getD x0 x1.toNat (0 : Int)) = (35 : Int))) = false) →
 (∃ y19 : Bool,
 (Need (E 66 [(.tv [] (.int .u8) (List.getD x0 x1.toNat (0 : Int)))] [] (.tv [] .bool y19) []) ∧
 (((y19 = true) →
 (∃ y21 : Int,
 (Need (E 67 [(.tv [] .str x0), (.tv [] (.int .i64) x1), (.fn 68 [] [])] [] (.tv [] (.int .i64) y21) []) ∧
 ((((decide (32 < y21)) = true) →
 (Q (.tup [(.tv [] (.int .i64) (0 : Int)), (.tv [] .str (List.map (fun v23 => (((BitVec.toNat (UInt8.toBitVec v23)) : Nat) : Int)) [])), (.tv [] (.int .i64) (0 : Int)), (.tv [] .bool false), (.op (1, 0) [])]) (hq2 (12 : Int) x1))) ∧
 (((decide (32 < y21)) = false) →
 (Need ((-9223372036854775808 ≤ (x1 + y21)) ∧ ((x1 + y21) ≤ 9223372036854775807)) ∧
 (Need ((0 ≤ x1) ∧ ((x1 ≤ (x1 + y21)) ∧ ((x1 + y21) ≤ (x0.length : Int)))) ∧
 (Need ((-9223372036854775808 ≤ (x1 + y21)) ∧ ((x1 + y21) ≤ 9223372036854775807)) ∧
 (Q (.tup [(.tv [] (.int .i64) (1 : Int)), (.tv [] .str (cut x0 x1.toNat (Int.toNat (x1 + y21)))), (.tv [] (.int .i64) (x1 + y21)), (.tv [] .bool true), (.tv [] .ref (Option.none ))]) []))))))))) ∧
 ((y19 = false) →
 (Need ((0 ≤ x1) ∧ (x1 < (x0.length : Int))) ∧
 ((((decide ((List.getD x0 x1.toNat (0 : Int)) = (37 : Int))) = true) →
 ((∃ y27 : qT6,
 (∃ y28 y29 y30 : Int,
 (Need (E 69 [(.tv [] .str x0), (.tv [] (.int .i64) x1)] [] (.tup [(.tv [] .str y27), (.tv [] (.int .i64) y28), (.op (1, 0) [])]) (hq2 y29 y30)) ∧
 (Q (.tup [(.tv [] (.int .i64) (2 : Int)), (.tv [] .str y27), (.tv [] (.int .i64) y28), (.tv [] .bool true), (.op (1, 0) [])]) (hq2 y29 y30))))) ∨
 (∃ y31 : qT6,
 (∃ y32 : Int,
 (Need (E 69 [(.tv [] .str x0), (.tv [] (.int .i64) x1)] [] (.tup [(.tv [] .str y31), (.tv [] (.int .i64) y32), (.tv [] .ref (Option.none ))]) []) ∧
 (Q (.tup [(.tv [] (.int .i64) (2 : Int)), (.tv [] .str y31), (.tv [] (.int .i64) y32), (.tv [] .bool true), (.tv [] .ref (Option.none ))]) [])))))) ∧
 (((decide ((List.getD x0 x1.toNat (0 : Int)) = (37 : Int))) = false) →
 ((((decide ((List.getD x0 x1.toNat (0 : Int)) = (34 : Int))) = true) →
 ((∃ y35 : qT6,
 (∃ y36 y37 y38 : Int,
 (Need (E 70 [(.tv [] .str x0), (.tv [] (.int .i64) x1)] [] (.tup [(.tv [] .str y35), (.tv [] (.int .i64) y36), (.op (1, 0) [])]) (hq2 y37 y38)) ∧
 (Q (.tup [(.tv [] (.int .i64) (3 : Int)), (.tv [] .str y35), (.tv [] (.int .i64) y36), (.tv [] .bool true), (.op (1, 0) [])]) (hq2 y37 y38))))) ∨
 (∃ y39 : qT6,
 (∃ y40 : Int,
 (Need (E 70 [(.tv [] .str x0), (.tv [] (.int .i64) x1)] [] (.tup [(.tv [] .str y39), (.tv [] (.int .i64) y40), (.tv [] .ref (Option.none ))]) []) ∧
 (Q (.tup [(.tv [] (.int .i64) (3 : Int)), (.tv [] .str y39), (.tv [] (.int .i64) y40), (.tv [] .bool true), (.tv [] .ref (Option.none ))]) [])))))) ∧
 (((decide ((List.getD x0 x1.toNat (0 : Int)) = (34 : Int))) = false) →
 ((((decide ((List.getD x0 x1.toNat (0 : Int)) = (91 : Int))) = true) →
 ((∃ y43 : qT6,
 (∃ y44 y45 y46 : Int,
 (Need (E 71 [(.tv [] .str x0), (.tv [] (.int .i64) x1)] [] (.tup [(.tv [] .str y43), (.tv [] (.int .i64) y44), (.op (1, 0) [])]) (hq2 y45 y46)) ∧
 (Q (.tup [(.tv [] (.int .i64) (4 : Int)), (.tv [] .str y43), (.tv [] (.int .i64) y44), (.tv [] .bool true), (.op (1, 0) [])]) (hq2 y45 y46))))) ∨
 (∃ y47 : qT6,
 (∃ y48 : Int,
 (Need (E 71 [(.tv [] .str x0), (.tv [] (.int .i64) x1)] [] (.tup [(.tv [] .str y47), (.tv [] (.int .i64) y48), (.tv [] .ref (Option.none ))]) []) ∧
 (Q (.tup [(.tv [] (.int .i64) (4 : Int)), (.tv [] .str y47), (.tv [] (.int .i64) y48), (.tv [] .bool true), (.tv [] .ref (Option.none ))]) [])))))) ∧
 (((decide ((List.getD x0 x1.toNat (0 : Int)) = (91 : Int))) = false) →
 ((((decide ((List.getD x0 x1.toNat (0 : Int)) = (123 : Int))) = true) →
 ((∃ y51 : qT6,
 (∃ y52 y53 y54 : Int,
 (Need (E 72 [(.tv [] .str x0), (.tv [] (.int .i64) x1)] [] (.tup [(.tv [] .str y51), (.tv [] (.int .i64) y52), (.op (1, 0) [])]) (hq2 y53 y54)) ∧
 (Q (.tup [(.tv [] (.int .i64) (9 : Int)), (.tv [] .str y51), (.tv [] (.int .i64) y52), (.tv [] .bool true), (.op (1, 0) [])]) (hq2 y53 y54))))) ∨
 (∃ y55 : qT6,
 (∃ y56 : Int,
 (Need (E 72 [(.tv [] .str x0), (.tv [] (.int .i64) x1)] [] (.tup [(.tv [] .str y55), (.tv [] (.int .i64) y56), (.tv [] .ref (Option.none ))]) []) ∧
 (Q (.tup [(.tv [] (.int .i64) (9 : Int)), (.tv [] .str y55), (.tv [] (.int .i64) y56), (.tv [] .bool true), (.tv [] .ref (Option.none ))]) [])))))) ∧
 (((decide ((List.getD x0 x1.toNat (0 : Int)) = (123 : Int))) = false) →
 ((((decide ((List.getD x0 x1.toNat (0 : Int)) = (43 : Int))) = true) →
 (Need ((0 ≤ x1) ∧ (x1 < (x0.length : Int))) ∧
 (∃ y59 : Int,
 (Need (E 73 [(.tv [] (.int .u8) (List.getD x0 x1.toNat (0 : Int)))] [] (.tv [] (.int .i64) y59) []) ∧
 (Need ((-9223372036854775808 ≤ (x1 + 1)) ∧ ((x1 + 1) ≤ 9223372036854775807)) ∧
 (Q (.tup [(.tv [] (.int .i64) y59), (.tv [] .str (List.map (fun v60 => (((BitVec.toNat (UInt8.toBitVec v60)) : Nat) : Int)) [])), (.tv [] (.int .i64) (x1 + 1)), (.tv [] .bool true), (.tv [] .ref (Option.none ))]) [])))))) ∧
 (((decide ((List.getD x0 x1.toNat (0 : Int)) = (43 : Int))) = false) →
 ((((decide ((List.getD x0 x1.toNat (0 : Int)) = (58 : Int))) = true) →
 (Need ((0 ≤ x1) ∧ (x1 < (x0.length : Int))) ∧
 (∃ y63 : Int,
 (Need (E 73 [(.tv [] (.int .u8) (List.getD x0 x1.toNat (0 : Int)))] [] (.tv [] (.int .i64) y63) []) ∧
 (Need ((-9223372036854775808 ≤ (x1 + 1)) ∧ ((x1 + 1) ≤ 9223372036854775807)) ∧
 (Q (.tup [(.tv [] (.int .i64) y63), (.tv [] .str (List.map (fun v64 => (((BitVec.toNat (UInt8.toBitVec v64)) : Nat) : Int)) [])), (.tv [] (.int .i64) (x1 + 1)), (.tv [] .bool true), (.tv [] .ref (Option.none ))]) [])))))) ∧
 (((decide ((List.getD x0 x1.toNat (0 : Int)) = (58 : Int))) = false) →
 ((((decide ((List.getD x0 x1.toNat (0 : Int)) = (124 : Int))) = true) →
 (Need ((0 ≤ x1) ∧ (x1 < (x0.length : Int))) ∧
 (∃ y67 : Int,
 (Need (E 73 [(.tv [] (.int .u8) (List.getD x0 x1.toNat (0 : Int)))] [] (.tv [] (.int .i64) y67) []) ∧
 (Need ((-9223372036854775808 ≤ (x1 + 1)) ∧ ((x1 + 1) ≤ 9223372036854775807)) ∧
 (Q (.tup [(.tv [] (.int .i64) y67), (.tv [] .str (List.map (fun v68 => (((BitVec.toNat (UInt8.toBitVec v68)) : Nat) : Int)) [])), (.tv [] (.int .i64) (x1 + 1)), (.tv [] .bool true), (.tv [] .ref (Option.none ))]) [])))))) ∧
 (((decide ((List.getD x0 x1.toNat (0 : Int)) = (124 : Int))) = false) →
 ((((decide ((List.getD x0 x1.toNat (0 : Int)) = (59 : Int))) = true) →
 (Need ((0 ≤ x1) ∧ (x1 < (x0.length : Int))) ∧
 (∃ y71 : Int,
 (Need (E 73 [(.tv [] (.int .u8) (List.getD x0 x1.toNat (0 : Int)))] [] (.tv [] (.int .i64) y71) []) ∧
 (Need ((-9223372036854775808 ≤ (x1 + 1)) ∧ ((x1 + 1) ≤ 9223372036854775807)) ∧
 (Q (.tup [(.tv [] (.int .i64) y71), (.tv [] .str (List.map (fun v72 => (((BitVec.toNat (UInt8.toBitVec v72)) : Nat) : Int)) [])), (.tv [] (.int .i64) (x1 + 1)), (.tv [] .bool true), (.tv [] .ref (Option.none ))]) [])))))) ∧
 (((decide ((List.getD x0 x1.toNat (0 : Int)) = (59 : Int))) = false) →
 (Q (.tup [(.tv [] (.int .i64) (0 : Int)), (.tv [] .str (List.map (fun v74 => (((BitVec.toNat (UInt8.toBitVec v74)) : Nat) : Int)) [])), (.tv [] (.int .i64) (0 : Int)), (.tv [] .bool false), (.op (1, 0) [])]) (hq2 (10 : Int) x1))))))))))))))))))))))))))))))))))) : EvF PP orc 51 [.tv [] .str x0, .tv [] (.int .i64) x1] [] Q := vc_of (by kernel_rfl) h
theorem vc52 (x0 : List Int) (x1 : Int) (Q : AV → Heap → Prop) (h :
(Need (((0 : Int) ≤ (0 : Int)) ∧ (((0 : Int) ≤ (max (0 : Int) (min x1 (x0.length : Int)))) ∧ ((max (0 : Int) (min x1 (x0.length : Int))) ≤ (x0.length : Int)))) ∧
 (∃ y0 : Int,
 (Need (E 74 [(.tv [] .str (cut x0 0 (Int.toNat (max (0 : Int) (min x1 (x0.length : Int)))))), (.tv [] .str (List.map (fun v1 => (((BitVec.toNat (UInt8.toBitVec v1)) : Nat) : Int)) [(10 : UInt8)]))] [] (.tv [] (.int .i64) y0) []) ∧
 (Need ((-9223372036854775808 ≤ (1 + y0)) ∧ ((1 + y0) ≤ 9223372036854775807)) ∧
 (∃ y2 : Int,
 (Need (E 75 [(.tv [] .str (cut x0 0 (Int.toNat (max (0 : Int) (min x1 (x0.length : Int)))))), (.tv [] (.int .u8) (10 : Int))] [] (.tv [] (.int .i64) y2) []) ∧
 (Need ((-9223372036854775808 ≤ (((List.length (cut x0 0 (Int.toNat (max (0 : Int) (min x1 (x0.length : Int)))))) : Int) - y2)) ∧ ((((List.length (cut x0 0 (Int.toNat (max (0 : Int) (min x1 (x0.length : Int)))))) : Int) - y2) ≤ 9223372036854775807)) ∧
 (Q (.tv [] qt4 ((1 + y0), ((((List.length (cut x0 0 (Int.toNat (max (0 : Int) (min x1 (x0.length : Int)))))) : Int) - y2), ()))) []))))))))) : EvF PP orc 52 [.tv [] .str x0, .tv [] (.int .i64) x1] [] Q := vc_of (by kernel_rfl) h
theorem vc28 (x0 : List Int) (Q : AV → Heap → Prop) (h :
((((decide ((4000 : Int) < (x0.length : Int))) = true) →
 (Q (.tup [(.tv [] qt5 []), (.tv [] qt2 ((12 : Int), (((1 : Int), ((1 : Int), ())), ())))]) [])) ∧
 (((decide ((4000 : Int) < (x0.length : Int))) = false) →
 (∃ y2 : (qT2 → (Int → (Int → (Int → (Int → Prop))))),
 (∃ y3 : (qT2 → (Int → (Int → (Int → (Int → Nat))))),
 ((y2 [] (0 : Int) (0 : Int) (0 : Int) (0 : Int)) ∧
 (∀ z4 : qT2,
 (∀ z5 z6 z7 z8 : Int,
 ((y2 z4 z5 z6 z7 z8) →
 ((((decide (z5 < (x0.length : Int))) = true) →
 ((∃ y11 : Int,
 (∃ y12 : qT6,
 (∃ y13 : Int,
 (∃ y14 : Bool,
 (∃ y15 y16 : Int,
 (Need (E 51 [(.tv [] .str x0), (.tv [] (.int .i64) z5)] [] (.tup [(.tv [] (.int .i64) y11), (.tv [] .str y12), (.tv [] (.int .i64) y13), (.tv [] .bool y14), (.op (1, 0) [])]) (hq2 y15 y16)) ∧
 ((((!false) = true) →
 (∃ y18 y19 : Int,
 (Need (E 52 [(.tv [] .str x0), (.tv [] (.int .i64) y16)] [] (.tv [] qt4 (y18, (y19, ()))) []) ∧
 (Q (.tup [(.tv [] qt5 []), (.tv [] qt2 (y15, ((y18, (y19, ())), ())))]) [])))) ∧
 (((!false) = false) →
 (((y14 = true) →
 (∃ y22 y23 : Int,
 (Need (E 52 [(.tv [] .str x0), (.tv [] (.int .i64) z5)] [] (.tv [] qt4 (y22, (y23, ()))) []) ∧
 (Need ((z4.length + (List.length [(y11, (y12, ((y22, (y23, ())), ())))])) ≤ bigN) ∧
 ((y2 (z4 ++ [(y11, (y12, ((y22, (y23, ())), ())))]) y13 z6 z7 z8) ∧
    Need ((y3 (z4 ++ [(y11, (y12, ((y22, (y23, ())), ())))]) y13 z6 z7 z8) < (y3 z4 z5 z6 z7 z8))))))) ∧
 ((y14 = false) →
 ((y2 z4 y13 z6 z7 z8) ∧
   Need ((y3 z4 y13 z6 z7 z8) < (y3 z4 z5 z6 z7 z8))))))))))))) ∨
 (∃ y25 : Int,
 (∃ y26 : qT6,
 (∃ y27 : Int,
 (∃ y28 : Bool,
 (Need (E 51 [(.tv [] .str x0), (.tv [] (.int .i64) z5)] [] (.tup [(.tv [] (.int .i64) y25), (.tv [] .str y26), (.tv [] (.int .i64) y27), (.tv [] .bool y28), (.tv [] .ref (Option.none ))]) []) ∧
 ((((!true) = true) →
   False) ∧
 (((!true) = false) →
 (((y28 = true) →
 (∃ y32 y33 : Int,
 (Need (E 52 [(.tv [] .str x0), (.tv [] (.int .i64) z5)] [] (.tv [] qt4 (y32, (y33, ()))) []) ∧
 (Need ((z4.length + (List.length [(y25, (y26, ((y32, (y33, ())), ())))])) ≤ bigN) ∧
 ((y2 (z4 ++ [(y25, (y26, ((y32, (y33, ())), ())))]) y27 z6 z7 z8) ∧
   Need ((y3 (z4 ++ [(y25, (y26, ((y32, (y33, ())), ())))]) y27 z6 z7 z8) < (y3 z4 z5 z6 z7 z8))))))) ∧
 ((y28 = false) →
 ((y2 z4 y27 z6 z7 z8) ∧
  Need ((y3 z4 y27 z6 z7 z8) < (y3 z4 z5 z6 z7 z8)))))))))))))) ∧
 (((decide (z5 < (x0.length : Int))) = false) →
 (∃ y36 y37 : Int,
 (Need (E 52 [(.tv [] .str x0), (.tv [] (.int .i64) (x0.length : Int))] [] (.tv [] qt4 (y36, (y37, ()))) []) ∧
 (Need ((z4.length + (List.length [((0 : Int), (([] : List Int), ((y36, (y37, ())), ())))])) ≤ bigN) ∧
 (Q (.tup [(.tv [] qt5 (z4 ++ [((0 : Int), ([], ((y36, (y37, ())), ())))])), (.tv [] qt2 ((0 : Int), (((0 : Int), ((0 : Int), ())), ())))]) []))))))))))))))) : EvF PP orc 28 [.tv [] .str x0] [] Q := vc_of (by kernel_rfl) h
end Go.Am.R
