/-
  A part of the proof of a law: see the text that states it.
-/
import Derived.Test.YtgfkdbplahpknaaHead
set_option linter.all false
namespace Go.Am.T
open Go
set_option maxRecDepth 100000
set_option maxHeartbeats 4000000
theorem vc13 (x1 : Int) (x2 : Int) (x3 : List (Int)) (g3 : Nat) (l3 : List (((Int × (Int × ((Int × (Int × (Int × Unit))) × (List (Int) × (Bool × (Bool × Unit)))))) × (Int × Unit)))) (n3 : Nat) (o0_0_2 : Int) (o0_0_0_0 : Int) (o0_0_0_1 : Int) (o0_0_0_2 : Int) (Q : AV → Heap → Prop) (h :
(∃ y0 : (Int → (Int → (Int → (Int → (Int → (Int → (Int → (Int → (qT0 → Prop))))))))),
 (∃ y1 : (Int → (Int → (Int → (Int → (Int → (Int → (Int → (Int → (qT0 → Nat))))))))),
 (Need (l3.length = l3.length) ∧
 ((y0 (0 : Int) (g3 : Int) (n3 : Int) o0_0_2 o0_0_0_0 o0_0_0_1 o0_0_0_2 (g3 : Int) l3) ∧
 (∀ z2 z3 z4 z5 z6 z7 z8 z9 : Int,
 (∀ z10 : qT0,
 ((y0 z2 z3 z4 z5 z6 z7 z8 z9 z10) →
 ((((decide (z2 < (x3.length : Int))) = true) →
 (Need ((0 ≤ z2) ∧ (z2 < (x3.length : Int))) ∧
 (∃ y13 y14 y15 y16 y17 : Int,
 (∃ y18 : qT2,
 (∃ y19 y20 y21 : Bool,
 (∃ y22 y23 : Nat,
 (∃ y24 y25 y26 y27 : Int,
 (∃ y28 : Nat,
 (∃ y29 : qT0,
 (Need (E 45 [(.op (0, 0) []), (.tv [] (.int .i64) (List.getD x3 z2.toNat (0 : Int)))] (hq4 z3.toNat z4.toNat z5 z6 z7 z8 z9.toNat z10) (.tup [(.tv [] qt12 (y13, (y14, ((y15, (y16, (y17, ()))), (y18, (y19, (y20, ()))))))), (.tv [] .bool y21)]) (hq4 y22 y23 y24 y25 y26 y27 y28 y29)) ∧
 ((((!y21) = true) →
 (Q (.tup [(.tv [] (.int .i64) (0 : Int)), (.tv [] (.int .i64) (2 : Int))]) (hq0 y22 y23 y24 y25 y26 y27 y28 y29))) ∧
 (((!y21) = false) →
 (Need ((-9223372036854775808 ≤ (z2 + 1)) ∧ ((z2 + 1) ≤ 9223372036854775807)) ∧
 (Need (y29.length = y29.length) ∧
 ((y0 (z2 + 1) (y22 : Int) (y23 : Int) y24 y25 y26 y27 (y28 : Int) y29) ∧
  Need ((y1 (z2 + 1) (y22 : Int) (y23 : Int) y24 y25 y26 y27 (y28 : Int) y29) < (y1 z2 z3 z4 z5 z6 z7 z8 z9 z10))))))))))))))))) ∧
 (((decide (z2 < (x3.length : Int))) = false) →
 (∃ y33 : (Int → (Int → (Int → (Int → (Int → (Int → (Int → (Int → (qT0 → Prop))))))))),
 (∃ y34 : (Int → (Int → (Int → (Int → (Int → (Int → (Int → (Int → (qT0 → Nat))))))))),
 (Need (z10.length = z10.length) ∧
 ((y33 (0 : Int) (z3.toNat : Int) (z4.toNat : Int) z5 z6 z7 z8 (z9.toNat : Int) z10) ∧
 (∀ z35 z36 z37 z38 z39 z40 z41 z42 : Int,
 (∀ z43 : qT0,
 ((y33 z35 z36 z37 z38 z39 z40 z41 z42 z43) →
 ((((decide (z35 < (x3.length : Int))) = true) →
 (Need ((0 ≤ z35) ∧ (z35 < (x3.length : Int))) ∧
 (∃ y46 y47 y48 y49 y50 : Int,
 (∃ y51 : qT2,
 (∃ y52 y53 y54 : Bool,
 (∃ y55 y56 : Nat,
 (∃ y57 y58 y59 y60 : Int,
 (∃ y61 : Nat,
 (∃ y62 : qT0,
 (Need (E 45 [(.op (0, 0) []), (.tv [] (.int .i64) (List.getD x3 z35.toNat (0 : Int)))] (hq4 z36.toNat z37.toNat z38 z39 z40 z41 z42.toNat z43) (.tup [(.tv [] qt12 (y46, (y47, ((y48, (y49, (y50, ()))), (y51, (y52, (y53, ()))))))), (.tv [] .bool y54)]) (hq4 y55 y56 y57 y58 y59 y60 y61 y62)) ∧
 (((y53 = true) →
 (Q (.tup [(.tv [] (.int .i64) (0 : Int)), (.tv [] (.int .i64) (15 : Int))]) (hq0 y55 y56 y57 y58 y59 y60 y61 y62))) ∧
 ((y53 = false) →
 (Need (((0 : Int) ≤ (0 : Int)) ∧ ((0 ≤ z35) ∧ (z35 ≤ (x3.length : Int)))) ∧
 (∃ y65 : Bool,
 (Need (E 46 [(.tv [] qt8 (cut x3 0 z35.toNat)), (.tv [] (.int .i64) (List.getD x3 z35.toNat (0 : Int)))] [] (.tv [] .bool y65) []) ∧
 (((y65 = true) →
 (Q (.tup [(.tv [] (.int .i64) (0 : Int)), (.tv [] (.int .i64) (15 : Int))]) (hq0 y55 y56 y57 y58 y59 y60 y61 y62))) ∧
 ((y65 = false) →
 (Need ((-9223372036854775808 ≤ (z35 + 1)) ∧ ((z35 + 1) ≤ 9223372036854775807)) ∧
 (Need (y62.length = y62.length) ∧
 ((y33 (z35 + 1) (y55 : Int) (y56 : Int) y57 y58 y59 y60 (y61 : Int) y62) ∧
  Need ((y34 (z35 + 1) (y55 : Int) (y56 : Int) y57 y58 y59 y60 (y61 : Int) y62) < (y34 z35 z36 z37 z38 z39 z40 z41 z42 z43)))))))))))))))))))))) ∧
 (((decide (z35 < (x3.length : Int))) = false) →
 (∃ y69 : qT2,
 (Need (E 47 [(.tv [] qt8 x3)] [] (.tv [[]] qt8 y69) []) ∧
 (Need ((-9223372036854775808 ≤ ((1 : Int) + (x3.length : Int))) ∧ (((1 : Int) + (x3.length : Int)) ≤ 9223372036854775807)) ∧
 (∃ y70 y71 : Int,
 (∃ y72 y73 : Nat,
 (∃ y74 y75 y76 y77 : Int,
 (∃ y78 : Nat,
 (∃ y79 : qT0,
 (Need (E 44 [(.op (0, 0) []), (.tv [] qt12 (x1, (x2, (((0 : Int), ((0 : Int), ((0 : Int), ()))), (y69, (false, (false, ()))))))), (.tv [] (.int .i64) ((1 : Int) + (x3.length : Int)))] (hq4 z36.toNat z37.toNat z38 z39 z40 z41 z42.toNat z43) (.tup [(.tv [] (.int .i64) y70), (.tv [] (.int .i64) y71)]) (hq4 y72 y73 y74 y75 y76 y77 y78 y79)) ∧
 ((((decide (y71 ≠ (0 : Int))) = true) →
 (Q (.tup [(.tv [] (.int .i64) (0 : Int)), (.tv [] (.int .i64) y71)]) (hq0 y72 y73 y74 y75 y76 y77 y78 y79))) ∧
 (((decide (y71 ≠ (0 : Int))) = false) →
 (∃ y82 : (Int → (Int → (Int → (Int → (Int → (Int → (Int → (Int → (qT0 → Prop))))))))),
 (∃ y83 : (Int → (Int → (Int → (Int → (Int → (Int → (Int → (Int → (qT0 → Nat))))))))),
 (Need (y79.length = y79.length) ∧
 ((y82 (0 : Int) (y72 : Int) (y73 : Int) y74 y75 y76 y77 (y78 : Int) y79) ∧
 (∀ z84 z85 z86 z87 z88 z89 z90 z91 : Int,
 (∀ z92 : qT0,
 ((y82 z84 z85 z86 z87 z88 z89 z90 z91 z92) →
 ((((decide (z84 < (x3.length : Int))) = true) →
 (Need ((0 ≤ z84) ∧ (z84 < (x3.length : Int))) ∧
 (∃ y95 y96 y97 y98 y99 : Int,
 (∃ y100 : qT2,
 (∃ y101 y102 y103 : Bool,
 (∃ y104 y105 : Nat,
 (∃ y106 y107 y108 y109 : Int,
 (∃ y110 : Nat,
 (∃ y111 : qT0,
 (Need (E 45 [(.op (0, 0) []), (.tv [] (.int .i64) (List.getD x3 z84.toNat (0 : Int)))] (hq4 z85.toNat z86.toNat z87 z88 z89 z90 z91.toNat z92) (.tup [(.tv [] qt12 (y95, (y96, ((y97, (y98, (y99, ()))), (y100, (y101, (y102, ()))))))), (.tv [] .bool y103)]) (hq4 y104 y105 y106 y107 y108 y109 y110 y111)) ∧
 (∃ y112 : Bool,
 (∃ y113 y114 : Nat,
 (∃ y115 y116 y117 y118 : Int,
 (∃ y119 : Nat,
 (∃ y120 : qT0,
 (Need (E 48 [(.op (0, 0) []), (.tv [] (.int .i64) (List.getD x3 z84.toNat (0 : Int))), (.tv [] qt12 (y95, (y96, ((y97, (y98, (y99, ()))), (y100, (y101, (true, ())))))))] (hq4 y104 y105 y106 y107 y108 y109 y110 y111) (.tv [] .bool y112) (hq4 y113 y114 y115 y116 y117 y118 y119 y120)) ∧
 (Need ((-9223372036854775808 ≤ (z84 + 1)) ∧ ((z84 + 1) ≤ 9223372036854775807)) ∧
 (Need (y120.length = y120.length) ∧
 ((y82 (z84 + 1) (y113 : Int) (y114 : Int) y115 y116 y117 y118 (y119 : Int) y120) ∧
  Need ((y83 (z84 + 1) (y113 : Int) (y114 : Int) y115 y116 y117 y118 (y119 : Int) y120) < (y83 z84 z85 z86 z87 z88 z89 z90 z91 z92))))))))))))))))))))) ∧
 (((decide (z84 < (x3.length : Int))) = false) →
 (Q (.tup [(.tv [] (.int .i64) y70), (.tv [] (.int .i64) (0 : Int))]) (hq0 z85.toNat z86.toNat z87 z88 z89 z90 z91.toNat z92))))))))))))))))))))))))))))))))))))))))) : EvF PP orc 13 [.op (0, 0) [], .tv [] (.int .i64) x1, .tv [] (.int .i64) x2, .tv [] qt8 x3] (hq7 g3 n3 o0_0_2 o0_0_0_0 o0_0_0_1 o0_0_0_2 l3) Q := vcF_ok (sg := sg) (Eq.mp (by kernel_rfl) h)
end Go.Am.T
