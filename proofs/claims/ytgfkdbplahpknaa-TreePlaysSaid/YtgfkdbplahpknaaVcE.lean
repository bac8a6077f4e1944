/-
  A part of the proof of a law: see the text that states it.
-/
import Derived.Test.YtgfkdbplahpknaaHead
set_option linter.all false
namespace Go.Am.T
open Go
set_option maxRecDepth 100000
set_option maxHeartbeats 4000000
theorem vc9  (Q : AV → Heap → Prop) (h :
(∃ y0 y1 : qT7,
 (∃ y2 : qT4,
 (∃ y3 y4 : qT2,
 (∃ y5 : qT7,
 (Need (E 23 [(.tv [] qt9 ((2 : Int), ((0 : Int), ([(0 : Int)], ([[(0 : Int), (1 : Int)]], ([], ([], ([], ()))))))))] [] (.tv [] qt3 (y0, (y1, (y2, (y3, (y4, (y5, ()))))))) []) ∧
 (∃ y6 y7 y8 : Int,
 (Need (E 11 [(.tv [] (.int .i64) (6 : Int))] [] (.op (1, 0) []) (hq14 y6 y7 y8)) ∧
 (∃ y9 : Nat,
 (∃ y10 : qT0,
 (∃ y11 y12 : Nat,
 (∃ y13 y14 y15 y16 : Int,
 (Need (E 10 [(.op (0, 0) [])] (hq2 y6 y7 y8) (.op (1, 0) []) (hq13 y9 y10 y11 y12 y13 y14 y15 y16)) ∧
 (((false = true) →
 (Q (.tv [] .bool false) [])) ∧
 ((false = false) →
 (∃ y19 y20 : Int,
 (∃ y21 y22 : Nat,
 (∃ y23 y24 y25 y26 : Int,
 (∃ y27 : Nat,
 (∃ y28 : qT0,
 (Need (E 12 [(.op (0, 0) []), (.tv [] qt1 ((1 : Int), ((0 : Int), ((1 : Int), ()))))] (hq0 y11 y12 y13 y14 y15 y16 y9 y10) (.tup [(.tv [] (.int .i64) y19), (.tv [] (.int .i64) y20)]) (hq0 y21 y22 y23 y24 y25 y26 y27 y28)) ∧
 (∃ y29 y30 : Int,
 (∃ y31 y32 : Nat,
 (∃ y33 y34 y35 y36 : Int,
 (∃ y37 : Nat,
 (∃ y38 : qT0,
 (Need (E 12 [(.op (0, 0) []), (.tv [] qt1 ((2 : Int), ((1 : Int), ((2 : Int), ()))))] (hq0 y21 y22 y23 y24 y25 y26 y27 y28) (.tup [(.tv [] (.int .i64) y29), (.tv [] (.int .i64) y30)]) (hq0 y31 y32 y33 y34 y35 y36 y37 y38)) ∧
 (∃ y39 y40 : Int,
 (∃ y41 y42 : Nat,
 (∃ y43 y44 y45 y46 : Int,
 (∃ y47 : Nat,
 (∃ y48 : qT0,
 (Need (E 13 [(.op (0, 0) []), (.tv [] (.int .i64) (1 : Int)), (.tv [] (.int .i64) (4 : Int)), (.tv [] qt8 [(0 : Int), (1 : Int)])] (hq0 y31 y32 y33 y34 y35 y36 y37 y38) (.tup [(.tv [] (.int .i64) y39), (.tv [] (.int .i64) y40)]) (hq0 y41 y42 y43 y44 y45 y46 y47 y48)) ∧
 (∃ y49 y50 : Int,
 (∃ y51 y52 : Nat,
 (∃ y53 y54 y55 y56 : Int,
 (∃ y57 : Nat,
 (∃ y58 : qT0,
 (Need (E 13 [(.op (0, 0) []), (.tv [] (.int .i64) (1 : Int)), (.tv [] (.int .i64) (4 : Int)), (.tv [] qt8 [(0 : Int)])] (hq0 y41 y42 y43 y44 y45 y46 y47 y48) (.tup [(.tv [] (.int .i64) y49), (.tv [] (.int .i64) y50)]) (hq0 y51 y52 y53 y54 y55 y56 y57 y58)) ∧
 (∃ y59 y60 : Int,
 (∃ y61 y62 : Nat,
 (∃ y63 y64 y65 y66 : Int,
 (∃ y67 : Nat,
 (∃ y68 : qT0,
 (Need (E 12 [(.op (0, 0) []), (.tv [] qt1 ((3 : Int), ((0 : Int), ((0 : Int), ()))))] (hq0 y51 y52 y53 y54 y55 y56 y57 y58) (.tup [(.tv [] (.int .i64) y59), (.tv [] (.int .i64) y60)]) (hq0 y61 y62 y63 y64 y65 y66 y67 y68)) ∧
 ((((decide (y19 = (0 : Int))) = true) →
 ((((decide (y29 = (1 : Int))) = true) →
 ((((decide (y39 = (2 : Int))) = true) →
 ((((decide (y50 = (15 : Int))) = true) →
 ((((decide (y59 = (3 : Int))) = true) →
 ((((decide (y60 = (0 : Int))) = true) →
 (∃ y75 : qT2,
 (∃ y76 y77 : Nat,
 (∃ y78 y79 y80 y81 : Int,
 (∃ y82 : Nat,
 (∃ y83 : qT0,
 (Need (E 40 [(.op (0, 0) []), (.tv [] qt3 (y0, (y1, (y2, (y3, (y4, (y5, ()))))))), (.tv [] (.int .i64) (2 : Int))] (hq0 y61 y62 y63 y64 y65 y66 y67 y68) (.tv [] .str y75) (hq0 y76 y77 y78 y79 y80 y81 y82 y83)) ∧
 ((((decide (y75 = [(40 : Int), (83 : Int), (32 : Int), (97 : Int), (32 : Int), (98 : Int), (41 : Int)])) = true) →
 (∃ y85 : Int,
 (∃ y86 y87 : Nat,
 (∃ y88 y89 y90 y91 : Int,
 (∃ y92 : Nat,
 (∃ y93 : qT0,
 (Need (E 29 [(.op (0, 0) [])] (hq0 y76 y77 y78 y79 y80 y81 y82 y83) (.tv [] (.int .i64) y85) (hq0 y86 y87 y88 y89 y90 y91 y92 y93)) ∧
 ((((decide (y85 = (6 : Int))) = true) →
 (∃ y95 : Bool,
 (∃ y96 y97 : Nat,
 (∃ y98 y99 y100 y101 : Int,
 (∃ y102 : Nat,
 (∃ y103 : qT0,
 (Need (E 25 [(.op (0, 0) []), (.tv [] qt3 (y0, (y1, (y2, (y3, (y4, (y5, ()))))))), (.tv [] (.int .i64) (2 : Int))] (hq0 y86 y87 y88 y89 y90 y91 y92 y93) (.tv [] .bool y95) (hq0 y96 y97 y98 y99 y100 y101 y102 y103)) ∧
 (Q (.tv [] .bool y95) [])))))))) ∧
 (((decide (y85 = (6 : Int))) = false) →
 (Q (.tv [] .bool false) [])))))))))) ∧
 (((decide (y75 = [(40 : Int), (83 : Int), (32 : Int), (97 : Int), (32 : Int), (98 : Int), (41 : Int)])) = false) →
 (Q (.tv [] .bool false) [])))))))))) ∧
 (((decide (y60 = (0 : Int))) = false) →
 (Q (.tv [] .bool false) [])))) ∧
 (((decide (y59 = (3 : Int))) = false) →
 (Q (.tv [] .bool false) [])))) ∧
 (((decide (y50 = (15 : Int))) = false) →
 (Q (.tv [] .bool false) [])))) ∧
 (((decide (y39 = (2 : Int))) = false) →
 (Q (.tv [] .bool false) [])))) ∧
 (((decide (y29 = (1 : Int))) = false) →
 (Q (.tv [] .bool false) [])))) ∧
 (((decide (y19 = (0 : Int))) = false) →
 (Q (.tv [] .bool false) [])))))))))))))))))))))))))))))))))))))))))))))))) : EvF PP orc 9 [] [] Q := vcF_ok (sg := sg) (Eq.mp (by kernel_rfl) h)
end Go.Am.T
