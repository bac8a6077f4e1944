/-
  A part of the proof of a law: see the text that states it.
-/
import Derived.Test.YtfnnapgpcndcjaaDoorHead
set_option linter.all false
namespace Go.Am.V
open Go
set_option maxRecDepth 100000
set_option maxHeartbeats 4000000
/-- tronage/eval.number -/
theorem vc18 (x0 : Int) (Q : AV → Heap → Prop) (h :
(Q (.tv [] (.pair (.int .i64) (.pair (.int .i64) .unit)) ((1 : Int), (x0, ()))) [])) : EvF PP orc 18 [.tv [] (.int .i64) x0] [] Q := vcF_ok (sg := sg) (Eq.mp (by kernel_rfl) h)
/-- tronage/eval.bad -/
theorem vc20 (x0 : Int) (Q : AV → Heap → Prop) (h :
(Q (.tv [] (.pair (.int .i64) (.pair (.int .i64) .unit)) ((3 : Int), (x0, ()))) [])) : EvF PP orc 20 [.tv [] (.int .i64) x0] [] Q := vcF_ok (sg := sg) (Eq.mp (by kernel_rfl) h)
/-- tronage/eval.signs$1 -/
theorem vc38 (x0 : Int) (x1 : Int) (Q : AV → Heap → Prop) (h :
(∃ y0 : Int,
 (∃ y1 : Int,
 (Need (E 18 [(.tv [] (.int .i64) (IntKind.wrap .i64 (x0 + x1)))] [] (.tv [] (.pair (.int .i64) (.pair (.int .i64) .unit)) (y0, (y1, ()))) []) ∧
 (Q (.tv [] (.pair (.int .i64) (.pair (.int .i64) .unit)) (y0, (y1, ()))) []))))) : EvF PP orc 38 [.tv [] (.int .i64) x0, .tv [] (.int .i64) x1] [] Q := vcF_ok (sg := sg) (Eq.mp (by kernel_rfl) h)
/-- tronage/eval.signs$2 -/
theorem vc39 (x0 : Int) (x1 : Int) (Q : AV → Heap → Prop) (h :
(∃ y0 : Int,
 (∃ y1 : Int,
 (Need (E 18 [(.tv [] (.int .i64) (IntKind.wrap .i64 (x0 - x1)))] [] (.tv [] (.pair (.int .i64) (.pair (.int .i64) .unit)) (y0, (y1, ()))) []) ∧
 (Q (.tv [] (.pair (.int .i64) (.pair (.int .i64) .unit)) (y0, (y1, ()))) []))))) : EvF PP orc 39 [.tv [] (.int .i64) x0, .tv [] (.int .i64) x1] [] Q := vcF_ok (sg := sg) (Eq.mp (by kernel_rfl) h)
/-- tronage/eval.signs$3 -/
theorem vc40 (x0 : Int) (x1 : Int) (Q : AV → Heap → Prop) (h :
(∃ y0 : Int,
 (∃ y1 : Int,
 (Need (E 18 [(.tv [] (.int .i64) (IntKind.wrap .i64 (x0 * x1)))] [] (.tv [] (.pair (.int .i64) (.pair (.int .i64) .unit)) (y0, (y1, ()))) []) ∧
 (Q (.tv [] (.pair (.int .i64) (.pair (.int .i64) .unit)) (y0, (y1, ()))) []))))) : EvF PP orc 40 [.tv [] (.int .i64) x0, .tv [] (.int .i64) x1] [] Q := vcF_ok (sg := sg) (Eq.mp (by kernel_rfl) h)
/-- tronage/eval.signs$4 -/
theorem vc41 (x0 : Int) (x1 : Int) (Q : AV → Heap → Prop) (h :
((((decide (x1 = (0 : Int))) = true) →
  (∃ y1 : Int,
  (∃ y2 : Int,
  (Need (E 20 [(.tv [] (.int .i64) (32 : Int))] [] (.tv [] (.pair (.int .i64) (.pair (.int .i64) .unit)) (y1, (y2, ()))) []) ∧
  (Q (.tv [] (.pair (.int .i64) (.pair (.int .i64) .unit)) (y1, (y2, ()))) []))))) ∧
 (((decide (x1 = (0 : Int))) = false) →
 (Need (x1 ≠ (0 : Int)) ∧
 (∃ y4 : Int,
 (∃ y5 : Int,
 (Need (E 18 [(.tv [] (.int .i64) (IntKind.wrap .i64 (Int.tdiv x0 x1)))] [] (.tv [] (.pair (.int .i64) (.pair (.int .i64) .unit)) (y4, (y5, ()))) []) ∧
 (Q (.tv [] (.pair (.int .i64) (.pair (.int .i64) .unit)) (y4, (y5, ()))) [])))))))) : EvF PP orc 41 [.tv [] (.int .i64) x0, .tv [] (.int .i64) x1] [] Q := vcF_ok (sg := sg) (Eq.mp (by kernel_rfl) h)
/-- tronage/eval.signs$5 -/
theorem vc42 (x0 : Int) (x1 : Int) (Q : AV → Heap → Prop) (h :
((((decide (x1 = (0 : Int))) = true) →
  (∃ y1 : Int,
  (∃ y2 : Int,
  (Need (E 20 [(.tv [] (.int .i64) (32 : Int))] [] (.tv [] (.pair (.int .i64) (.pair (.int .i64) .unit)) (y1, (y2, ()))) []) ∧
  (Q (.tv [] (.pair (.int .i64) (.pair (.int .i64) .unit)) (y1, (y2, ()))) []))))) ∧
 (((decide (x1 = (0 : Int))) = false) →
 (Need (x1 ≠ (0 : Int)) ∧
 (Need (¬ ((IntKind.i64 = IntKind.u8) ∧ (¬ (((0 : Int) ≤ x0) ∧ ((x0 < (256 : Int)) ∧ ((0 : Int) < x1)))))) ∧
 (∃ y4 : Int,
 (∃ y5 : Int,
 (Need (E 18 [(.tv [] (.int .i64) (Int.tmod x0 x1))] [] (.tv [] (.pair (.int .i64) (.pair (.int .i64) .unit)) (y4, (y5, ()))) []) ∧
 (Q (.tv [] (.pair (.int .i64) (.pair (.int .i64) .unit)) (y4, (y5, ()))) []))))))))) : EvF PP orc 42 [.tv [] (.int .i64) x0, .tv [] (.int .i64) x1] [] Q := vcF_ok (sg := sg) (Eq.mp (by kernel_rfl) h)
/-- tronage/eval.wrong -/
theorem vc22 (γ : Nat) (N : Nat) (lo : Nat) (len : Nat) (l : List (Int × Int × Unit)) (Q : AV → Heap → Prop) (h :
(∃ y0 : (Int → (Int → (Int → (Int → ((List (Prod Int (Prod Int PUnit))) → Prop))))),
 (∃ y1 : (Int → (Int → (Int → (Int → ((List (Prod Int (Prod Int PUnit))) → Nat))))),
 (Need (N = (List.length l)) ∧
 ((y0 (0 : Int) (0 : Int) (0 : Int) (γ : Int) l) ∧
 (∀ z2 : Int,
 (∀ z3 : Int,
 (∀ z4 : Int,
 (∀ z5 : Int,
 (∀ z6 : (List (Prod Int (Prod Int PUnit))),
 ((y0 z2 z3 z4 z5 z6) →
 ((((decide (z2 < (len : Int))) = true) →
  (Need (((0 : Int) ≤ z2) ∧ (z2 < (len : Int))) ∧
  (Need ((Int.toNat z5) = γ) ∧
  (Need ((lo + (Int.toNat z2)) < (List.length z6)) ∧
  ((((decide ((List.getD z6 (lo + (Int.toNat z2)) ((0 : Int), ((0 : Int), ()))).1 = (3 : Int))) = true) →
   (Q (.tup [(.tv [] (.pair (.int .i64) (.pair (.int .i64) .unit)) (List.getD z6 (lo + (Int.toNat z2)) ((0 : Int), ((0 : Int), ())))), (.tv [] .bool true)]) [((0, 0), ⟨⟨(.arr (Nat.succ (Int.toNat z5)) (List.length z6) (.pair (.int .i64) (.pair (.int .i64) .unit))), z6⟩, []⟩)])) ∧
  (((decide ((List.getD z6 (lo + (Int.toNat z2)) ((0 : Int), ((0 : Int), ()))).1 = (3 : Int))) = false) →
  (Need (((-9223372036854775808 : Int) ≤ (z2 + (1 : Int))) ∧ ((z2 + (1 : Int)) ≤ (9223372036854775807 : Int))) ∧
  (Need ((List.length z6) = (List.length z6)) ∧
  ((y0 (z2 + (1 : Int)) z3 z4 ((Int.toNat z5) : Int) z6) ∧
  Need ((y1 (z2 + (1 : Int)) z3 z4 ((Int.toNat z5) : Int) z6) < (y1 z2 z3 z4 z5 z6))))))))))) ∧
 (((decide (z2 < (len : Int))) = false) →
 (∃ y12 : (Int → (Int → (Int → (Int → ((List (Prod Int (Prod Int PUnit))) → Prop))))),
 (∃ y13 : (Int → (Int → (Int → (Int → ((List (Prod Int (Prod Int PUnit))) → Nat))))),
 (Need ((List.length z6) = (List.length z6)) ∧
 ((y12 (0 : Int) z3 z4 ((Int.toNat z5) : Int) z6) ∧
 (∀ z14 : Int,
 (∀ z15 : Int,
 (∀ z16 : Int,
 (∀ z17 : Int,
 (∀ z18 : (List (Prod Int (Prod Int PUnit))),
 ((y12 z14 z15 z16 z17 z18) →
 ((((decide (z14 < (len : Int))) = true) →
  (Need (((0 : Int) ≤ z14) ∧ (z14 < (len : Int))) ∧
  (Need ((Int.toNat z17) = γ) ∧
  (Need ((lo + (Int.toNat z14)) < (List.length z18)) ∧
  ((((decide ((List.getD z18 (lo + (Int.toNat z14)) ((0 : Int), ((0 : Int), ()))).1 ≠ (1 : Int))) = true) →
   (∃ y22 : Int,
   (∃ y23 : Int,
   (Need (E 20 [(.tv [] (.int .i64) (33 : Int))] [] (.tv [] (.pair (.int .i64) (.pair (.int .i64) .unit)) (y22, (y23, ()))) []) ∧
   (Q (.tup [(.tv [] (.pair (.int .i64) (.pair (.int .i64) .unit)) (y22, (y23, ()))), (.tv [] .bool true)]) [((0, 0), ⟨⟨(.arr (Nat.succ (Int.toNat z17)) (List.length z18) (.pair (.int .i64) (.pair (.int .i64) .unit))), z18⟩, []⟩)]))))) ∧
  (((decide ((List.getD z18 (lo + (Int.toNat z14)) ((0 : Int), ((0 : Int), ()))).1 ≠ (1 : Int))) = false) →
  (Need (((-9223372036854775808 : Int) ≤ (z14 + (1 : Int))) ∧ ((z14 + (1 : Int)) ≤ (9223372036854775807 : Int))) ∧
  (Need ((List.length z18) = (List.length z18)) ∧
  ((y12 (z14 + (1 : Int)) z15 z16 ((Int.toNat z17) : Int) z18) ∧
  Need ((y13 (z14 + (1 : Int)) z15 z16 ((Int.toNat z17) : Int) z18) < (y13 z14 z15 z16 z17 z18))))))))))) ∧
 (((decide (z14 < (len : Int))) = false) →
 (Q (.tup [(.tv [] (.pair (.int .i64) (.pair (.int .i64) .unit)) ((0 : Int), ((0 : Int), ()))), (.tv [] .bool false)]) [((0, 0), ⟨⟨(.arr (Nat.succ (Int.toNat z17)) (List.length z18) (.pair (.int .i64) (.pair (.int .i64) .unit))), z18⟩, []⟩)])))))))))))))))))))))))))) : EvF PP orc 22 [.tv [] (.sref (.pair (.int .i64) (.pair (.int .i64) .unit))) (some ((0, 0), γ, lo, len))] [((0, 0), ⟨⟨.arr (Nat.succ γ) N (.pair (.int .i64) (.pair (.int .i64) .unit)), l⟩, []⟩)] Q := vcF_ok (sg := sg) (Eq.mp (by kernel_rfl) h)
/-- tronage/eval.signs -/
theorem vc21  (Q : AV → Heap → Prop) (h :
(Q (.tv [] (.mref (.int .i64) .fnc) (Option.some (1, 0))) [((1, 0), ⟨⟨(.mp (.int .i64) .fnc), (Pr.mset (Pr.mset (Pr.mset (Pr.mset (Pr.mset [] (5 : Int) (Option.some 38)) (6 : Int) (Option.some 39)) (7 : Int) (Option.some 40)) (8 : Int) (Option.some 41)) (9 : Int) (Option.some 42))⟩, []⟩)])) : EvF PP orc 21 [] [] Q := vcF_ok (sg := sg) (Eq.mp (by kernel_rfl) h)
/-- tronage/eval.Run -/
theorem vc11 (x0 : List ((Int × (Int × Unit)))) (x1 : List ((Int × (Int × Unit)))) (x2 : List (Int)) (Q : AV → Heap → Prop) (h :
(∃ y0 : Int,
 (∃ y1 : Int,
 (Need (E 19 [(.tv [] (.slice (.pair (.int .i64) (.pair (.int .i64) .unit))) x0), (.tv [] (.int .i64) ((List.length x1) : Int))] [] (.tup [(.tv [] (.int .i64) y0), (.tv [] (.int .i64) y1)]) []) ∧
 ((((decide (y1 ≠ (0 : Int))) = true) →
  (∃ y3 : Int,
  (∃ y4 : Int,
  (Need (E 20 [(.tv [] (.int .i64) (31 : Int))] [] (.tv [] (.pair (.int .i64) (.pair (.int .i64) .unit)) (y3, (y4, ()))) []) ∧
  (Q (.tv [] (.pair (.int .i64) (.pair (.int .i64) .unit)) (y3, (y4, ()))) []))))) ∧
 (((decide (y1 ≠ (0 : Int))) = false) →
 ((((decide (((List.length x0) : Int) = (0 : Int))) = true) →
  (∃ y7 : Int,
  (∃ y8 : Int,
  (Need (E 20 [(.tv [] (.int .i64) (31 : Int))] [] (.tv [] (.pair (.int .i64) (.pair (.int .i64) .unit)) (y7, (y8, ()))) []) ∧
  (Q (.tv [] (.pair (.int .i64) (.pair (.int .i64) .unit)) (y7, (y8, ()))) []))))) ∧
 (((decide (((List.length x0) : Int) = (0 : Int))) = false) →
 ((((decide (((List.length x1) : Int) ≠ ((List.length x2) : Int))) = true) →
  (∃ y11 : Int,
  (∃ y12 : Int,
  (Need (E 20 [(.tv [] (.int .i64) (31 : Int))] [] (.tv [] (.pair (.int .i64) (.pair (.int .i64) .unit)) (y11, (y12, ()))) []) ∧
  (Q (.tv [] (.pair (.int .i64) (.pair (.int .i64) .unit)) (y11, (y12, ()))) []))))) ∧
 (((decide (((List.length x1) : Int) ≠ ((List.length x2) : Int))) = false) →
 (Need (E 21 [] [] (.tv [] (.mref (.int .i64) .fnc) (Option.some (1, 0))) [((1, 0), ⟨⟨(.mp (.int .i64) .fnc), [((5 : Int), (Option.some 38)), ((6 : Int), (Option.some 39)), ((7 : Int), (Option.some 40)), ((8 : Int), (Option.some 41)), ((9 : Int), (Option.some 42))]⟩, []⟩)]) ∧
 (∃ y14 : (Int → (Int → (Int → (Int → ((List (Prod Int (Prod Int PUnit))) → Prop))))),
 (∃ y15 : (Int → (Int → (Int → (Int → ((List (Prod Int (Prod Int PUnit))) → Nat))))),
 (Need (0 = 0) ∧
 ((y14 ((0 : Nat) : Int) ((0 : Nat) : Int) (0 : Int) ((0 : Nat) : Int) []) ∧
 (∀ z16 : Int,
 (∀ z17 : Int,
 (∀ z18 : Int,
 (∀ z19 : Int,
 (∀ z20 : (List (Prod Int (Prod Int PUnit))),
 ((y14 z16 z17 z18 z19 z20) →
 ((((decide (z18 < ((List.length x0) : Int))) = true) →
  (Need (((0 : Int) ≤ z18) ∧ (z18 < ((List.length x0) : Int))) ∧
  ((((decide ((List.getD x0 (Int.toNat z18) ((0 : Int), ((0 : Int), ()))).1 = (1 : Int))) = true) →
   (∃ y24 : Int,
   (∃ y25 : Int,
   (Need (E 18 [(.tv [] (.int .i64) (List.getD x0 (Int.toNat z18) ((0 : Int), ((0 : Int), ()))).2.1)] [] (.tv [] (.pair (.int .i64) (.pair (.int .i64) .unit)) (y24, (y25, ()))) []) ∧
   (Need (((Int.toNat z16) = (Int.toNat z19)) ∧ (((Int.toNat z17) ≤ (List.length z20)) ∧ ((0 < (List.length [(y24, (y25, ()))])) ∧ (((List.length z20) + (List.length [(y24, (y25, ()))])) ≤ bigN)))) ∧
   (Need (((-9223372036854775808 : Int) ≤ (z18 + (1 : Int))) ∧ ((z18 + (1 : Int)) ≤ (9223372036854775807 : Int))) ∧
   (Need (([((5 : Int), (Option.some 38)), ((6 : Int), (Option.some 39)), ((7 : Int), (Option.some 40)), ((8 : Int), (Option.some 41)), ((9 : Int), (Option.some 42))] = [((5 : Int), (Option.some 38)), ((6 : Int), (Option.some 39)), ((7 : Int), (Option.some 40)), ((8 : Int), (Option.some 41)), ((9 : Int), (Option.some 42))]) ∧ ((((0 : Int), ((0 : Int), ())) = ((0 : Int), ((0 : Int), ()))) ∧ (((Int.toNat z17) + (List.length [(y24, (y25, ()))])) = (List.length ((List.take (Int.toNat z17) z20) ++ [(y24, (y25, ()))]))))) ∧
   ((y14 (((Nat.succ (Int.toNat z19)) : Nat) : Int) ((((Int.toNat z17) + (List.length [(y24, (y25, ()))])) : Nat) : Int) (z18 + (1 : Int)) (((Nat.succ (Int.toNat z19)) : Nat) : Int) ((List.take (Int.toNat z17) z20) ++ [(y24, (y25, ()))])) ∧
   Need ((y15 (((Nat.succ (Int.toNat z19)) : Nat) : Int) ((((Int.toNat z17) + (List.length [(y24, (y25, ()))])) : Nat) : Int) (z18 + (1 : Int)) (((Nat.succ (Int.toNat z19)) : Nat) : Int) ((List.take (Int.toNat z17) z20) ++ [(y24, (y25, ()))])) < (y15 z16 z17 z18 z19 z20)))))))))) ∧
  (((decide ((List.getD x0 (Int.toNat z18) ((0 : Int), ((0 : Int), ()))).1 = (1 : Int))) = false) →
  ((((decide ((List.getD x0 (Int.toNat z18) ((0 : Int), ((0 : Int), ()))).1 = (2 : Int))) = true) →
   (Need (((-9223372036854775808 : Int) ≤ ((List.getD x0 (Int.toNat z18) ((0 : Int), ((0 : Int), ()))).2.1 - (1 : Int))) ∧ (((List.getD x0 (Int.toNat z18) ((0 : Int), ((0 : Int), ()))).2.1 - (1 : Int)) ≤ (9223372036854775807 : Int))) ∧
   (Need (((0 : Int) ≤ ((List.getD x0 (Int.toNat z18) ((0 : Int), ((0 : Int), ()))).2.1 - (1 : Int))) ∧ (((List.getD x0 (Int.toNat z18) ((0 : Int), ((0 : Int), ()))).2.1 - (1 : Int)) < ((List.length x1) : Int))) ∧
   (Need (((Int.toNat z16) = (Int.toNat z19)) ∧ (((Int.toNat z17) ≤ (List.length z20)) ∧ ((0 < (List.length [(List.getD x1 (Int.toNat ((List.getD x0 (Int.toNat z18) ((0 : Int), ((0 : Int), ()))).2.1 - (1 : Int))) ((0 : Int), ((0 : Int), ())))])) ∧ (((List.length z20) + (List.length [(List.getD x1 (Int.toNat ((List.getD x0 (Int.toNat z18) ((0 : Int), ((0 : Int), ()))).2.1 - (1 : Int))) ((0 : Int), ((0 : Int), ())))])) ≤ bigN)))) ∧
   (Need (((-9223372036854775808 : Int) ≤ (z18 + (1 : Int))) ∧ ((z18 + (1 : Int)) ≤ (9223372036854775807 : Int))) ∧
   (Need (([((5 : Int), (Option.some 38)), ((6 : Int), (Option.some 39)), ((7 : Int), (Option.some 40)), ((8 : Int), (Option.some 41)), ((9 : Int), (Option.some 42))] = [((5 : Int), (Option.some 38)), ((6 : Int), (Option.some 39)), ((7 : Int), (Option.some 40)), ((8 : Int), (Option.some 41)), ((9 : Int), (Option.some 42))]) ∧ ((((0 : Int), ((0 : Int), ())) = ((0 : Int), ((0 : Int), ()))) ∧ (((Int.toNat z17) + (List.length [(List.getD x1 (Int.toNat ((List.getD x0 (Int.toNat z18) ((0 : Int), ((0 : Int), ()))).2.1 - (1 : Int))) ((0 : Int), ((0 : Int), ())))])) = (List.length ((List.take (Int.toNat z17) z20) ++ [(List.getD x1 (Int.toNat ((List.getD x0 (Int.toNat z18) ((0 : Int), ((0 : Int), ()))).2.1 - (1 : Int))) ((0 : Int), ((0 : Int), ())))]))))) ∧
   ((y14 (((Nat.succ (Int.toNat z19)) : Nat) : Int) ((((Int.toNat z17) + (List.length [(List.getD x1 (Int.toNat ((List.getD x0 (Int.toNat z18) ((0 : Int), ((0 : Int), ()))).2.1 - (1 : Int))) ((0 : Int), ((0 : Int), ())))])) : Nat) : Int) (z18 + (1 : Int)) (((Nat.succ (Int.toNat z19)) : Nat) : Int) ((List.take (Int.toNat z17) z20) ++ [(List.getD x1 (Int.toNat ((List.getD x0 (Int.toNat z18) ((0 : Int), ((0 : Int), ()))).2.1 - (1 : Int))) ((0 : Int), ((0 : Int), ())))])) ∧
   Need ((y15 (((Nat.succ (Int.toNat z19)) : Nat) : Int) ((((Int.toNat z17) + (List.length [(List.getD x1 (Int.toNat ((List.getD x0 (Int.toNat z18) ((0 : Int), ((0 : Int), ()))).2.1 - (1 : Int))) ((0 : Int), ((0 : Int), ())))])) : Nat) : Int) (z18 + (1 : Int)) (((Nat.succ (Int.toNat z19)) : Nat) : Int) ((List.take (Int.toNat z17) z20) ++ [(List.getD x1 (Int.toNat ((List.getD x0 (Int.toNat z18) ((0 : Int), ((0 : Int), ()))).2.1 - (1 : Int))) ((0 : Int), ((0 : Int), ())))])) < (y15 z16 z17 z18 z19 z20))))))))) ∧
  (((decide ((List.getD x0 (Int.toNat z18) ((0 : Int), ((0 : Int), ()))).1 = (2 : Int))) = false) →
  ((((decide ((List.getD x0 (Int.toNat z18) ((0 : Int), ((0 : Int), ()))).1 = (3 : Int))) = true) →
   (Need (((-9223372036854775808 : Int) ≤ ((List.getD x0 (Int.toNat z18) ((0 : Int), ((0 : Int), ()))).2.1 - (1 : Int))) ∧ (((List.getD x0 (Int.toNat z18) ((0 : Int), ((0 : Int), ()))).2.1 - (1 : Int)) ≤ (9223372036854775807 : Int))) ∧
   (Need (((0 : Int) ≤ ((List.getD x0 (Int.toNat z18) ((0 : Int), ((0 : Int), ()))).2.1 - (1 : Int))) ∧ (((List.getD x0 (Int.toNat z18) ((0 : Int), ((0 : Int), ()))).2.1 - (1 : Int)) < ((List.length x2) : Int))) ∧
   (Need (((Int.toNat z16) = (Int.toNat z19)) ∧ (((Int.toNat z17) ≤ (List.length z20)) ∧ ((0 < (List.length [((2 : Int), ((List.getD x2 (Int.toNat ((List.getD x0 (Int.toNat z18) ((0 : Int), ((0 : Int), ()))).2.1 - (1 : Int))) (0 : Int)), ()))])) ∧ (((List.length z20) + (List.length [((2 : Int), ((List.getD x2 (Int.toNat ((List.getD x0 (Int.toNat z18) ((0 : Int), ((0 : Int), ()))).2.1 - (1 : Int))) (0 : Int)), ()))])) ≤ bigN)))) ∧
   (Need (((-9223372036854775808 : Int) ≤ (z18 + (1 : Int))) ∧ ((z18 + (1 : Int)) ≤ (9223372036854775807 : Int))) ∧
   (Need (([((5 : Int), (Option.some 38)), ((6 : Int), (Option.some 39)), ((7 : Int), (Option.some 40)), ((8 : Int), (Option.some 41)), ((9 : Int), (Option.some 42))] = [((5 : Int), (Option.some 38)), ((6 : Int), (Option.some 39)), ((7 : Int), (Option.some 40)), ((8 : Int), (Option.some 41)), ((9 : Int), (Option.some 42))]) ∧ ((((0 : Int), ((0 : Int), ())) = ((0 : Int), ((0 : Int), ()))) ∧ (((Int.toNat z17) + (List.length [((2 : Int), ((List.getD x2 (Int.toNat ((List.getD x0 (Int.toNat z18) ((0 : Int), ((0 : Int), ()))).2.1 - (1 : Int))) (0 : Int)), ()))])) = (List.length ((List.take (Int.toNat z17) z20) ++ [((2 : Int), ((List.getD x2 (Int.toNat ((List.getD x0 (Int.toNat z18) ((0 : Int), ((0 : Int), ()))).2.1 - (1 : Int))) (0 : Int)), ()))]))))) ∧
   ((y14 (((Nat.succ (Int.toNat z19)) : Nat) : Int) ((((Int.toNat z17) + (List.length [((2 : Int), ((List.getD x2 (Int.toNat ((List.getD x0 (Int.toNat z18) ((0 : Int), ((0 : Int), ()))).2.1 - (1 : Int))) (0 : Int)), ()))])) : Nat) : Int) (z18 + (1 : Int)) (((Nat.succ (Int.toNat z19)) : Nat) : Int) ((List.take (Int.toNat z17) z20) ++ [((2 : Int), ((List.getD x2 (Int.toNat ((List.getD x0 (Int.toNat z18) ((0 : Int), ((0 : Int), ()))).2.1 - (1 : Int))) (0 : Int)), ()))])) ∧
   Need ((y15 (((Nat.succ (Int.toNat z19)) : Nat) : Int) ((((Int.toNat z17) + (List.length [((2 : Int), ((List.getD x2 (Int.toNat ((List.getD x0 (Int.toNat z18) ((0 : Int), ((0 : Int), ()))).2.1 - (1 : Int))) (0 : Int)), ()))])) : Nat) : Int) (z18 + (1 : Int)) (((Nat.succ (Int.toNat z19)) : Nat) : Int) ((List.take (Int.toNat z17) z20) ++ [((2 : Int), ((List.getD x2 (Int.toNat ((List.getD x0 (Int.toNat z18) ((0 : Int), ((0 : Int), ()))).2.1 - (1 : Int))) (0 : Int)), ()))])) < (y15 z16 z17 z18 z19 z20))))))))) ∧
  (((decide ((List.getD x0 (Int.toNat z18) ((0 : Int), ((0 : Int), ()))).1 = (3 : Int))) = false) →
  ((((decide ((List.getD x0 (Int.toNat z18) ((0 : Int), ((0 : Int), ()))).1 = (4 : Int))) = true) →
   (Need (((-9223372036854775808 : Int) ≤ (((Int.toNat z17) : Int) - (1 : Int))) ∧ ((((Int.toNat z17) : Int) - (1 : Int)) ≤ (9223372036854775807 : Int))) ∧
   (Need (((0 : Int) ≤ (((Int.toNat z17) : Int) - (1 : Int))) ∧ (((((Int.toNat z17) : Int) - (1 : Int)) ≤ ((Int.toNat z17) : Int)) ∧ (((Int.toNat z17) : Int) ≤ ((Int.toNat z17) : Int)))) ∧
   (∃ y32 : Int,
   (∃ y33 : Int,
   (∃ y34 : Bool,
   (∃ y35 : Nat,
   (∃ y36 : (List (Prod Int (Prod Int PUnit))),
   (Need (E 22 [(.tv [] (.sref (.pair (.int .i64) (.pair (.int .i64) .unit))) (Option.some ((0, 0), ((Int.toNat z16), ((0 + (Int.toNat (((Int.toNat z17) : Int) - (1 : Int)))), ((Int.toNat ((Int.toNat z17) : Int)) - (Int.toNat (((Int.toNat z17) : Int) - (1 : Int)))))))))] [((0, 0), ⟨⟨(.arr (Nat.succ (Int.toNat z19)) (List.length z20) (.pair (.int .i64) (.pair (.int .i64) .unit))), z20⟩, []⟩)] (.tup [(.tv [] (.pair (.int .i64) (.pair (.int .i64) .unit)) (y32, (y33, ()))), (.tv [] .bool y34)]) [((0, 0), ⟨⟨(.arr (Nat.succ y35) (List.length y36) (.pair (.int .i64) (.pair (.int .i64) .unit))), y36⟩, []⟩)]) ∧
   ((((!y34) = true) →
    (Need (((-9223372036854775808 : Int) ≤ (((Int.toNat z17) : Int) - (1 : Int))) ∧ ((((Int.toNat z17) : Int) - (1 : Int)) ≤ (9223372036854775807 : Int))) ∧
    (Need (((0 : Int) ≤ (((Int.toNat z17) : Int) - (1 : Int))) ∧ ((((Int.toNat z17) : Int) - (1 : Int)) < ((Int.toNat z17) : Int))) ∧
    (Need (y35 = (Int.toNat z16)) ∧
    (Need ((0 + (Int.toNat (((Int.toNat z17) : Int) - (1 : Int)))) < (List.length y36)) ∧
    (Need (y35 = (Int.toNat z16)) ∧
    (Need ((0 + (Int.toNat (((Int.toNat z17) : Int) - (1 : Int)))) < (List.length y36)) ∧
    (∃ y38 : Int,
    (∃ y39 : Int,
    (Need (E 18 [(.tv [] (.int .i64) (IntKind.wrap .i64 ((0 : Int) - (List.getD y36 (0 + (Int.toNat (((Int.toNat z17) : Int) - (1 : Int)))) ((0 : Int), ((0 : Int), ()))).2.1)))] [] (.tv [] (.pair (.int .i64) (.pair (.int .i64) .unit)) (y38, (y39, ()))) []) ∧
    (Need (((-9223372036854775808 : Int) ≤ (((Int.toNat z17) : Int) - (1 : Int))) ∧ ((((Int.toNat z17) : Int) - (1 : Int)) ≤ (9223372036854775807 : Int))) ∧
    (Need (((0 : Int) ≤ (((Int.toNat z17) : Int) - (1 : Int))) ∧ ((((Int.toNat z17) : Int) - (1 : Int)) < ((Int.toNat z17) : Int))) ∧
    (Need (y35 = (Int.toNat z16)) ∧
    (Need ((0 + (Int.toNat (((Int.toNat z17) : Int) - (1 : Int)))) < (List.length y36)) ∧
    (Need (((-9223372036854775808 : Int) ≤ (z18 + (1 : Int))) ∧ ((z18 + (1 : Int)) ≤ (9223372036854775807 : Int))) ∧
    (Need (([((5 : Int), (Option.some 38)), ((6 : Int), (Option.some 39)), ((7 : Int), (Option.some 40)), ((8 : Int), (Option.some 41)), ((9 : Int), (Option.some 42))] = [((5 : Int), (Option.some 38)), ((6 : Int), (Option.some 39)), ((7 : Int), (Option.some 40)), ((8 : Int), (Option.some 41)), ((9 : Int), (Option.some 42))]) ∧ ((((0 : Int), ((0 : Int), ())) = ((0 : Int), ((0 : Int), ()))) ∧ ((List.length y36) = (List.length (List.set y36 (0 + (Int.toNat (((Int.toNat z17) : Int) - (1 : Int)))) (y38, (y39, ()))))))) ∧
    ((y14 ((Int.toNat z16) : Int) ((Int.toNat z17) : Int) (z18 + (1 : Int)) (y35 : Int) (List.set y36 (0 + (Int.toNat (((Int.toNat z17) : Int) - (1 : Int)))) (y38, (y39, ())))) ∧
    Need ((y15 ((Int.toNat z16) : Int) ((Int.toNat z17) : Int) (z18 + (1 : Int)) (y35 : Int) (List.set y36 (0 + (Int.toNat (((Int.toNat z17) : Int) - (1 : Int)))) (y38, (y39, ())))) < (y15 z16 z17 z18 z19 z20))))))))))))))))))) ∧
   (((!y34) = false) →
   (Need (((-9223372036854775808 : Int) ≤ (((Int.toNat z17) : Int) - (1 : Int))) ∧ ((((Int.toNat z17) : Int) - (1 : Int)) ≤ (9223372036854775807 : Int))) ∧
   (Need (((0 : Int) ≤ (((Int.toNat z17) : Int) - (1 : Int))) ∧ ((((Int.toNat z17) : Int) - (1 : Int)) < ((Int.toNat z17) : Int))) ∧
   (Need (y35 = (Int.toNat z16)) ∧
   (Need ((0 + (Int.toNat (((Int.toNat z17) : Int) - (1 : Int)))) < (List.length y36)) ∧
   (Need (((-9223372036854775808 : Int) ≤ (z18 + (1 : Int))) ∧ ((z18 + (1 : Int)) ≤ (9223372036854775807 : Int))) ∧
   (Need (([((5 : Int), (Option.some 38)), ((6 : Int), (Option.some 39)), ((7 : Int), (Option.some 40)), ((8 : Int), (Option.some 41)), ((9 : Int), (Option.some 42))] = [((5 : Int), (Option.some 38)), ((6 : Int), (Option.some 39)), ((7 : Int), (Option.some 40)), ((8 : Int), (Option.some 41)), ((9 : Int), (Option.some 42))]) ∧ ((((0 : Int), ((0 : Int), ())) = ((0 : Int), ((0 : Int), ()))) ∧ ((List.length y36) = (List.length (List.set y36 (0 + (Int.toNat (((Int.toNat z17) : Int) - (1 : Int)))) (y32, (y33, ()))))))) ∧
   ((y14 ((Int.toNat z16) : Int) ((Int.toNat z17) : Int) (z18 + (1 : Int)) (y35 : Int) (List.set y36 (0 + (Int.toNat (((Int.toNat z17) : Int) - (1 : Int)))) (y32, (y33, ())))) ∧
   Need ((y15 ((Int.toNat z16) : Int) ((Int.toNat z17) : Int) (z18 + (1 : Int)) (y35 : Int) (List.set y36 (0 + (Int.toNat (((Int.toNat z17) : Int) - (1 : Int)))) (y32, (y33, ())))) < (y15 z16 z17 z18 z19 z20)))))))))))))))))))) ∧
  (((decide ((List.getD x0 (Int.toNat z18) ((0 : Int), ((0 : Int), ()))).1 = (4 : Int))) = false) →
  (Need (((-9223372036854775808 : Int) ≤ (((Int.toNat z17) : Int) - (2 : Int))) ∧ ((((Int.toNat z17) : Int) - (2 : Int)) ≤ (9223372036854775807 : Int))) ∧
  (Need (((0 : Int) ≤ (((Int.toNat z17) : Int) - (2 : Int))) ∧ (((((Int.toNat z17) : Int) - (2 : Int)) ≤ ((Int.toNat z17) : Int)) ∧ (((Int.toNat z17) : Int) ≤ ((Int.toNat z17) : Int)))) ∧
  (∃ y42 : Int,
  (∃ y43 : Int,
  (∃ y44 : Bool,
  (∃ y45 : Nat,
  (∃ y46 : (List (Prod Int (Prod Int PUnit))),
  (Need (E 22 [(.tv [] (.sref (.pair (.int .i64) (.pair (.int .i64) .unit))) (Option.some ((0, 0), ((Int.toNat z16), ((0 + (Int.toNat (((Int.toNat z17) : Int) - (2 : Int)))), ((Int.toNat ((Int.toNat z17) : Int)) - (Int.toNat (((Int.toNat z17) : Int) - (2 : Int)))))))))] [((0, 0), ⟨⟨(.arr (Nat.succ (Int.toNat z19)) (List.length z20) (.pair (.int .i64) (.pair (.int .i64) .unit))), z20⟩, []⟩)] (.tup [(.tv [] (.pair (.int .i64) (.pair (.int .i64) .unit)) (y42, (y43, ()))), (.tv [] .bool y44)]) [((0, 0), ⟨⟨(.arr (Nat.succ y45) (List.length y46) (.pair (.int .i64) (.pair (.int .i64) .unit))), y46⟩, []⟩)]) ∧
  ((((!y44) = true) →
   ((((List.getD x0 (Int.toNat z18) ((0 : Int), ((0 : Int), ()))).1 = (5 : Int)) →
    (Need (((-9223372036854775808 : Int) ≤ (((Int.toNat z17) : Int) - (2 : Int))) ∧ ((((Int.toNat z17) : Int) - (2 : Int)) ≤ (9223372036854775807 : Int))) ∧
    (Need (((0 : Int) ≤ (((Int.toNat z17) : Int) - (2 : Int))) ∧ ((((Int.toNat z17) : Int) - (2 : Int)) < ((Int.toNat z17) : Int))) ∧
    (Need (y45 = (Int.toNat z16)) ∧
    (Need ((0 + (Int.toNat (((Int.toNat z17) : Int) - (2 : Int)))) < (List.length y46)) ∧
    (Need (y45 = (Int.toNat z16)) ∧
    (Need ((0 + (Int.toNat (((Int.toNat z17) : Int) - (2 : Int)))) < (List.length y46)) ∧
    (Need (((-9223372036854775808 : Int) ≤ (((Int.toNat z17) : Int) - (1 : Int))) ∧ ((((Int.toNat z17) : Int) - (1 : Int)) ≤ (9223372036854775807 : Int))) ∧
    (Need (((0 : Int) ≤ (((Int.toNat z17) : Int) - (1 : Int))) ∧ ((((Int.toNat z17) : Int) - (1 : Int)) < ((Int.toNat z17) : Int))) ∧
    (Need (y45 = (Int.toNat z16)) ∧
    (Need ((0 + (Int.toNat (((Int.toNat z17) : Int) - (1 : Int)))) < (List.length y46)) ∧
    (Need (y45 = (Int.toNat z16)) ∧
    (Need ((0 + (Int.toNat (((Int.toNat z17) : Int) - (1 : Int)))) < (List.length y46)) ∧
    (∃ y49 : Int,
    (∃ y50 : Int,
    (Need (E 38 [(.tv [] (.int .i64) (List.getD y46 (0 + (Int.toNat (((Int.toNat z17) : Int) - (2 : Int)))) ((0 : Int), ((0 : Int), ()))).2.1), (.tv [] (.int .i64) (List.getD y46 (0 + (Int.toNat (((Int.toNat z17) : Int) - (1 : Int)))) ((0 : Int), ((0 : Int), ()))).2.1)] [] (.tv [] (.pair (.int .i64) (.pair (.int .i64) .unit)) (y49, (y50, ()))) []) ∧
    (Need (((-9223372036854775808 : Int) ≤ (((Int.toNat z17) : Int) - (2 : Int))) ∧ ((((Int.toNat z17) : Int) - (2 : Int)) ≤ (9223372036854775807 : Int))) ∧
    (Need (((0 : Int) ≤ (0 : Int)) ∧ (((0 : Int) ≤ (((Int.toNat z17) : Int) - (2 : Int))) ∧ ((((Int.toNat z17) : Int) - (2 : Int)) ≤ ((Int.toNat z17) : Int)))) ∧
    (Need (((Int.toNat z16) = y45) ∧ ((((Int.toNat (((Int.toNat z17) : Int) - (2 : Int))) - 0) ≤ (List.length y46)) ∧ ((0 < (List.length [(y49, (y50, ()))])) ∧ (((List.length y46) + (List.length [(y49, (y50, ()))])) ≤ bigN)))) ∧
    (Need (((-9223372036854775808 : Int) ≤ (z18 + (1 : Int))) ∧ ((z18 + (1 : Int)) ≤ (9223372036854775807 : Int))) ∧
    (Need (([((5 : Int), (Option.some 38)), ((6 : Int), (Option.some 39)), ((7 : Int), (Option.some 40)), ((8 : Int), (Option.some 41)), ((9 : Int), (Option.some 42))] = [((5 : Int), (Option.some 38)), ((6 : Int), (Option.some 39)), ((7 : Int), (Option.some 40)), ((8 : Int), (Option.some 41)), ((9 : Int), (Option.some 42))]) ∧ ((((0 : Int), ((0 : Int), ())) = ((0 : Int), ((0 : Int), ()))) ∧ ((((Int.toNat (((Int.toNat z17) : Int) - (2 : Int))) - 0) + (List.length [(y49, (y50, ()))])) = (List.length ((List.take ((Int.toNat (((Int.toNat z17) : Int) - (2 : Int))) - 0) y46) ++ [(y49, (y50, ()))]))))) ∧
    ((y14 (((Nat.succ y45) : Nat) : Int) (((((Int.toNat (((Int.toNat z17) : Int) - (2 : Int))) - 0) + (List.length [(y49, (y50, ()))])) : Nat) : Int) (z18 + (1 : Int)) (((Nat.succ y45) : Nat) : Int) ((List.take ((Int.toNat (((Int.toNat z17) : Int) - (2 : Int))) - 0) y46) ++ [(y49, (y50, ()))])) ∧
    Need ((y15 (((Nat.succ y45) : Nat) : Int) (((((Int.toNat (((Int.toNat z17) : Int) - (2 : Int))) - 0) + (List.length [(y49, (y50, ()))])) : Nat) : Int) (z18 + (1 : Int)) (((Nat.succ y45) : Nat) : Int) ((List.take ((Int.toNat (((Int.toNat z17) : Int) - (2 : Int))) - 0) y46) ++ [(y49, (y50, ()))])) < (y15 z16 z17 z18 z19 z20)))))))))))))))))))))))) ∧
   (((List.getD x0 (Int.toNat z18) ((0 : Int), ((0 : Int), ()))).1 ≠ (5 : Int)) →
   ((((List.getD x0 (Int.toNat z18) ((0 : Int), ((0 : Int), ()))).1 = (6 : Int)) →
    (Need (((-9223372036854775808 : Int) ≤ (((Int.toNat z17) : Int) - (2 : Int))) ∧ ((((Int.toNat z17) : Int) - (2 : Int)) ≤ (9223372036854775807 : Int))) ∧
    (Need (((0 : Int) ≤ (((Int.toNat z17) : Int) - (2 : Int))) ∧ ((((Int.toNat z17) : Int) - (2 : Int)) < ((Int.toNat z17) : Int))) ∧
    (Need (y45 = (Int.toNat z16)) ∧
    (Need ((0 + (Int.toNat (((Int.toNat z17) : Int) - (2 : Int)))) < (List.length y46)) ∧
    (Need (y45 = (Int.toNat z16)) ∧
    (Need ((0 + (Int.toNat (((Int.toNat z17) : Int) - (2 : Int)))) < (List.length y46)) ∧
    (Need (((-9223372036854775808 : Int) ≤ (((Int.toNat z17) : Int) - (1 : Int))) ∧ ((((Int.toNat z17) : Int) - (1 : Int)) ≤ (9223372036854775807 : Int))) ∧
    (Need (((0 : Int) ≤ (((Int.toNat z17) : Int) - (1 : Int))) ∧ ((((Int.toNat z17) : Int) - (1 : Int)) < ((Int.toNat z17) : Int))) ∧
    (Need (y45 = (Int.toNat z16)) ∧
    (Need ((0 + (Int.toNat (((Int.toNat z17) : Int) - (1 : Int)))) < (List.length y46)) ∧
    (Need (y45 = (Int.toNat z16)) ∧
    (Need ((0 + (Int.toNat (((Int.toNat z17) : Int) - (1 : Int)))) < (List.length y46)) ∧
    (∃ y53 : Int,
    (∃ y54 : Int,
    (Need (E 39 [(.tv [] (.int .i64) (List.getD y46 (0 + (Int.toNat (((Int.toNat z17) : Int) - (2 : Int)))) ((0 : Int), ((0 : Int), ()))).2.1), (.tv [] (.int .i64) (List.getD y46 (0 + (Int.toNat (((Int.toNat z17) : Int) - (1 : Int)))) ((0 : Int), ((0 : Int), ()))).2.1)] [] (.tv [] (.pair (.int .i64) (.pair (.int .i64) .unit)) (y53, (y54, ()))) []) ∧
    (Need (((-9223372036854775808 : Int) ≤ (((Int.toNat z17) : Int) - (2 : Int))) ∧ ((((Int.toNat z17) : Int) - (2 : Int)) ≤ (9223372036854775807 : Int))) ∧
    (Need (((0 : Int) ≤ (0 : Int)) ∧ (((0 : Int) ≤ (((Int.toNat z17) : Int) - (2 : Int))) ∧ ((((Int.toNat z17) : Int) - (2 : Int)) ≤ ((Int.toNat z17) : Int)))) ∧
    (Need (((Int.toNat z16) = y45) ∧ ((((Int.toNat (((Int.toNat z17) : Int) - (2 : Int))) - 0) ≤ (List.length y46)) ∧ ((0 < (List.length [(y53, (y54, ()))])) ∧ (((List.length y46) + (List.length [(y53, (y54, ()))])) ≤ bigN)))) ∧
    (Need (((-9223372036854775808 : Int) ≤ (z18 + (1 : Int))) ∧ ((z18 + (1 : Int)) ≤ (9223372036854775807 : Int))) ∧
    (Need (([((5 : Int), (Option.some 38)), ((6 : Int), (Option.some 39)), ((7 : Int), (Option.some 40)), ((8 : Int), (Option.some 41)), ((9 : Int), (Option.some 42))] = [((5 : Int), (Option.some 38)), ((6 : Int), (Option.some 39)), ((7 : Int), (Option.some 40)), ((8 : Int), (Option.some 41)), ((9 : Int), (Option.some 42))]) ∧ ((((0 : Int), ((0 : Int), ())) = ((0 : Int), ((0 : Int), ()))) ∧ ((((Int.toNat (((Int.toNat z17) : Int) - (2 : Int))) - 0) + (List.length [(y53, (y54, ()))])) = (List.length ((List.take ((Int.toNat (((Int.toNat z17) : Int) - (2 : Int))) - 0) y46) ++ [(y53, (y54, ()))]))))) ∧
    ((y14 (((Nat.succ y45) : Nat) : Int) (((((Int.toNat (((Int.toNat z17) : Int) - (2 : Int))) - 0) + (List.length [(y53, (y54, ()))])) : Nat) : Int) (z18 + (1 : Int)) (((Nat.succ y45) : Nat) : Int) ((List.take ((Int.toNat (((Int.toNat z17) : Int) - (2 : Int))) - 0) y46) ++ [(y53, (y54, ()))])) ∧
    Need ((y15 (((Nat.succ y45) : Nat) : Int) (((((Int.toNat (((Int.toNat z17) : Int) - (2 : Int))) - 0) + (List.length [(y53, (y54, ()))])) : Nat) : Int) (z18 + (1 : Int)) (((Nat.succ y45) : Nat) : Int) ((List.take ((Int.toNat (((Int.toNat z17) : Int) - (2 : Int))) - 0) y46) ++ [(y53, (y54, ()))])) < (y15 z16 z17 z18 z19 z20)))))))))))))))))))))))) ∧
   (((List.getD x0 (Int.toNat z18) ((0 : Int), ((0 : Int), ()))).1 ≠ (6 : Int)) →
   ((((List.getD x0 (Int.toNat z18) ((0 : Int), ((0 : Int), ()))).1 = (7 : Int)) →
    (Need (((-9223372036854775808 : Int) ≤ (((Int.toNat z17) : Int) - (2 : Int))) ∧ ((((Int.toNat z17) : Int) - (2 : Int)) ≤ (9223372036854775807 : Int))) ∧
    (Need (((0 : Int) ≤ (((Int.toNat z17) : Int) - (2 : Int))) ∧ ((((Int.toNat z17) : Int) - (2 : Int)) < ((Int.toNat z17) : Int))) ∧
    (Need (y45 = (Int.toNat z16)) ∧
    (Need ((0 + (Int.toNat (((Int.toNat z17) : Int) - (2 : Int)))) < (List.length y46)) ∧
    (Need (y45 = (Int.toNat z16)) ∧
    (Need ((0 + (Int.toNat (((Int.toNat z17) : Int) - (2 : Int)))) < (List.length y46)) ∧
    (Need (((-9223372036854775808 : Int) ≤ (((Int.toNat z17) : Int) - (1 : Int))) ∧ ((((Int.toNat z17) : Int) - (1 : Int)) ≤ (9223372036854775807 : Int))) ∧
    (Need (((0 : Int) ≤ (((Int.toNat z17) : Int) - (1 : Int))) ∧ ((((Int.toNat z17) : Int) - (1 : Int)) < ((Int.toNat z17) : Int))) ∧
    (Need (y45 = (Int.toNat z16)) ∧
    (Need ((0 + (Int.toNat (((Int.toNat z17) : Int) - (1 : Int)))) < (List.length y46)) ∧
    (Need (y45 = (Int.toNat z16)) ∧
    (Need ((0 + (Int.toNat (((Int.toNat z17) : Int) - (1 : Int)))) < (List.length y46)) ∧
    (∃ y57 : Int,
    (∃ y58 : Int,
    (Need (E 40 [(.tv [] (.int .i64) (List.getD y46 (0 + (Int.toNat (((Int.toNat z17) : Int) - (2 : Int)))) ((0 : Int), ((0 : Int), ()))).2.1), (.tv [] (.int .i64) (List.getD y46 (0 + (Int.toNat (((Int.toNat z17) : Int) - (1 : Int)))) ((0 : Int), ((0 : Int), ()))).2.1)] [] (.tv [] (.pair (.int .i64) (.pair (.int .i64) .unit)) (y57, (y58, ()))) []) ∧
    (Need (((-9223372036854775808 : Int) ≤ (((Int.toNat z17) : Int) - (2 : Int))) ∧ ((((Int.toNat z17) : Int) - (2 : Int)) ≤ (9223372036854775807 : Int))) ∧
    (Need (((0 : Int) ≤ (0 : Int)) ∧ (((0 : Int) ≤ (((Int.toNat z17) : Int) - (2 : Int))) ∧ ((((Int.toNat z17) : Int) - (2 : Int)) ≤ ((Int.toNat z17) : Int)))) ∧
    (Need (((Int.toNat z16) = y45) ∧ ((((Int.toNat (((Int.toNat z17) : Int) - (2 : Int))) - 0) ≤ (List.length y46)) ∧ ((0 < (List.length [(y57, (y58, ()))])) ∧ (((List.length y46) + (List.length [(y57, (y58, ()))])) ≤ bigN)))) ∧
    (Need (((-9223372036854775808 : Int) ≤ (z18 + (1 : Int))) ∧ ((z18 + (1 : Int)) ≤ (9223372036854775807 : Int))) ∧
    (Need (([((5 : Int), (Option.some 38)), ((6 : Int), (Option.some 39)), ((7 : Int), (Option.some 40)), ((8 : Int), (Option.some 41)), ((9 : Int), (Option.some 42))] = [((5 : Int), (Option.some 38)), ((6 : Int), (Option.some 39)), ((7 : Int), (Option.some 40)), ((8 : Int), (Option.some 41)), ((9 : Int), (Option.some 42))]) ∧ ((((0 : Int), ((0 : Int), ())) = ((0 : Int), ((0 : Int), ()))) ∧ ((((Int.toNat (((Int.toNat z17) : Int) - (2 : Int))) - 0) + (List.length [(y57, (y58, ()))])) = (List.length ((List.take ((Int.toNat (((Int.toNat z17) : Int) - (2 : Int))) - 0) y46) ++ [(y57, (y58, ()))]))))) ∧
    ((y14 (((Nat.succ y45) : Nat) : Int) (((((Int.toNat (((Int.toNat z17) : Int) - (2 : Int))) - 0) + (List.length [(y57, (y58, ()))])) : Nat) : Int) (z18 + (1 : Int)) (((Nat.succ y45) : Nat) : Int) ((List.take ((Int.toNat (((Int.toNat z17) : Int) - (2 : Int))) - 0) y46) ++ [(y57, (y58, ()))])) ∧
    Need ((y15 (((Nat.succ y45) : Nat) : Int) (((((Int.toNat (((Int.toNat z17) : Int) - (2 : Int))) - 0) + (List.length [(y57, (y58, ()))])) : Nat) : Int) (z18 + (1 : Int)) (((Nat.succ y45) : Nat) : Int) ((List.take ((Int.toNat (((Int.toNat z17) : Int) - (2 : Int))) - 0) y46) ++ [(y57, (y58, ()))])) < (y15 z16 z17 z18 z19 z20)))))))))))))))))))))))) ∧
   (((List.getD x0 (Int.toNat z18) ((0 : Int), ((0 : Int), ()))).1 ≠ (7 : Int)) →
   ((((List.getD x0 (Int.toNat z18) ((0 : Int), ((0 : Int), ()))).1 = (8 : Int)) →
    (Need (((-9223372036854775808 : Int) ≤ (((Int.toNat z17) : Int) - (2 : Int))) ∧ ((((Int.toNat z17) : Int) - (2 : Int)) ≤ (9223372036854775807 : Int))) ∧
    (Need (((0 : Int) ≤ (((Int.toNat z17) : Int) - (2 : Int))) ∧ ((((Int.toNat z17) : Int) - (2 : Int)) < ((Int.toNat z17) : Int))) ∧
    (Need (y45 = (Int.toNat z16)) ∧
    (Need ((0 + (Int.toNat (((Int.toNat z17) : Int) - (2 : Int)))) < (List.length y46)) ∧
    (Need (y45 = (Int.toNat z16)) ∧
    (Need ((0 + (Int.toNat (((Int.toNat z17) : Int) - (2 : Int)))) < (List.length y46)) ∧
    (Need (((-9223372036854775808 : Int) ≤ (((Int.toNat z17) : Int) - (1 : Int))) ∧ ((((Int.toNat z17) : Int) - (1 : Int)) ≤ (9223372036854775807 : Int))) ∧
    (Need (((0 : Int) ≤ (((Int.toNat z17) : Int) - (1 : Int))) ∧ ((((Int.toNat z17) : Int) - (1 : Int)) < ((Int.toNat z17) : Int))) ∧
    (Need (y45 = (Int.toNat z16)) ∧
    (Need ((0 + (Int.toNat (((Int.toNat z17) : Int) - (1 : Int)))) < (List.length y46)) ∧
    (Need (y45 = (Int.toNat z16)) ∧
    (Need ((0 + (Int.toNat (((Int.toNat z17) : Int) - (1 : Int)))) < (List.length y46)) ∧
    (∃ y61 : Int,
    (∃ y62 : Int,
    (Need (E 41 [(.tv [] (.int .i64) (List.getD y46 (0 + (Int.toNat (((Int.toNat z17) : Int) - (2 : Int)))) ((0 : Int), ((0 : Int), ()))).2.1), (.tv [] (.int .i64) (List.getD y46 (0 + (Int.toNat (((Int.toNat z17) : Int) - (1 : Int)))) ((0 : Int), ((0 : Int), ()))).2.1)] [] (.tv [] (.pair (.int .i64) (.pair (.int .i64) .unit)) (y61, (y62, ()))) []) ∧
    (Need (((-9223372036854775808 : Int) ≤ (((Int.toNat z17) : Int) - (2 : Int))) ∧ ((((Int.toNat z17) : Int) - (2 : Int)) ≤ (9223372036854775807 : Int))) ∧
    (Need (((0 : Int) ≤ (0 : Int)) ∧ (((0 : Int) ≤ (((Int.toNat z17) : Int) - (2 : Int))) ∧ ((((Int.toNat z17) : Int) - (2 : Int)) ≤ ((Int.toNat z17) : Int)))) ∧
    (Need (((Int.toNat z16) = y45) ∧ ((((Int.toNat (((Int.toNat z17) : Int) - (2 : Int))) - 0) ≤ (List.length y46)) ∧ ((0 < (List.length [(y61, (y62, ()))])) ∧ (((List.length y46) + (List.length [(y61, (y62, ()))])) ≤ bigN)))) ∧
    (Need (((-9223372036854775808 : Int) ≤ (z18 + (1 : Int))) ∧ ((z18 + (1 : Int)) ≤ (9223372036854775807 : Int))) ∧
    (Need (([((5 : Int), (Option.some 38)), ((6 : Int), (Option.some 39)), ((7 : Int), (Option.some 40)), ((8 : Int), (Option.some 41)), ((9 : Int), (Option.some 42))] = [((5 : Int), (Option.some 38)), ((6 : Int), (Option.some 39)), ((7 : Int), (Option.some 40)), ((8 : Int), (Option.some 41)), ((9 : Int), (Option.some 42))]) ∧ ((((0 : Int), ((0 : Int), ())) = ((0 : Int), ((0 : Int), ()))) ∧ ((((Int.toNat (((Int.toNat z17) : Int) - (2 : Int))) - 0) + (List.length [(y61, (y62, ()))])) = (List.length ((List.take ((Int.toNat (((Int.toNat z17) : Int) - (2 : Int))) - 0) y46) ++ [(y61, (y62, ()))]))))) ∧
    ((y14 (((Nat.succ y45) : Nat) : Int) (((((Int.toNat (((Int.toNat z17) : Int) - (2 : Int))) - 0) + (List.length [(y61, (y62, ()))])) : Nat) : Int) (z18 + (1 : Int)) (((Nat.succ y45) : Nat) : Int) ((List.take ((Int.toNat (((Int.toNat z17) : Int) - (2 : Int))) - 0) y46) ++ [(y61, (y62, ()))])) ∧
    Need ((y15 (((Nat.succ y45) : Nat) : Int) (((((Int.toNat (((Int.toNat z17) : Int) - (2 : Int))) - 0) + (List.length [(y61, (y62, ()))])) : Nat) : Int) (z18 + (1 : Int)) (((Nat.succ y45) : Nat) : Int) ((List.take ((Int.toNat (((Int.toNat z17) : Int) - (2 : Int))) - 0) y46) ++ [(y61, (y62, ()))])) < (y15 z16 z17 z18 z19 z20)))))))))))))))))))))))) ∧
   (((List.getD x0 (Int.toNat z18) ((0 : Int), ((0 : Int), ()))).1 ≠ (8 : Int)) →
   ((((List.getD x0 (Int.toNat z18) ((0 : Int), ((0 : Int), ()))).1 = (9 : Int)) →
    (Need (((-9223372036854775808 : Int) ≤ (((Int.toNat z17) : Int) - (2 : Int))) ∧ ((((Int.toNat z17) : Int) - (2 : Int)) ≤ (9223372036854775807 : Int))) ∧
    (Need (((0 : Int) ≤ (((Int.toNat z17) : Int) - (2 : Int))) ∧ ((((Int.toNat z17) : Int) - (2 : Int)) < ((Int.toNat z17) : Int))) ∧
    (Need (y45 = (Int.toNat z16)) ∧
    (Need ((0 + (Int.toNat (((Int.toNat z17) : Int) - (2 : Int)))) < (List.length y46)) ∧
    (Need (y45 = (Int.toNat z16)) ∧
    (Need ((0 + (Int.toNat (((Int.toNat z17) : Int) - (2 : Int)))) < (List.length y46)) ∧
    (Need (((-9223372036854775808 : Int) ≤ (((Int.toNat z17) : Int) - (1 : Int))) ∧ ((((Int.toNat z17) : Int) - (1 : Int)) ≤ (9223372036854775807 : Int))) ∧
    (Need (((0 : Int) ≤ (((Int.toNat z17) : Int) - (1 : Int))) ∧ ((((Int.toNat z17) : Int) - (1 : Int)) < ((Int.toNat z17) : Int))) ∧
    (Need (y45 = (Int.toNat z16)) ∧
    (Need ((0 + (Int.toNat (((Int.toNat z17) : Int) - (1 : Int)))) < (List.length y46)) ∧
    (Need (y45 = (Int.toNat z16)) ∧
    (Need ((0 + (Int.toNat (((Int.toNat z17) : Int) - (1 : Int)))) < (List.length y46)) ∧
    (∃ y65 : Int,
    (∃ y66 : Int,
    (Need (E 42 [(.tv [] (.int .i64) (List.getD y46 (0 + (Int.toNat (((Int.toNat z17) : Int) - (2 : Int)))) ((0 : Int), ((0 : Int), ()))).2.1), (.tv [] (.int .i64) (List.getD y46 (0 + (Int.toNat (((Int.toNat z17) : Int) - (1 : Int)))) ((0 : Int), ((0 : Int), ()))).2.1)] [] (.tv [] (.pair (.int .i64) (.pair (.int .i64) .unit)) (y65, (y66, ()))) []) ∧
    (Need (((-9223372036854775808 : Int) ≤ (((Int.toNat z17) : Int) - (2 : Int))) ∧ ((((Int.toNat z17) : Int) - (2 : Int)) ≤ (9223372036854775807 : Int))) ∧
    (Need (((0 : Int) ≤ (0 : Int)) ∧ (((0 : Int) ≤ (((Int.toNat z17) : Int) - (2 : Int))) ∧ ((((Int.toNat z17) : Int) - (2 : Int)) ≤ ((Int.toNat z17) : Int)))) ∧
    (Need (((Int.toNat z16) = y45) ∧ ((((Int.toNat (((Int.toNat z17) : Int) - (2 : Int))) - 0) ≤ (List.length y46)) ∧ ((0 < (List.length [(y65, (y66, ()))])) ∧ (((List.length y46) + (List.length [(y65, (y66, ()))])) ≤ bigN)))) ∧
    (Need (((-9223372036854775808 : Int) ≤ (z18 + (1 : Int))) ∧ ((z18 + (1 : Int)) ≤ (9223372036854775807 : Int))) ∧
    (Need (([((5 : Int), (Option.some 38)), ((6 : Int), (Option.some 39)), ((7 : Int), (Option.some 40)), ((8 : Int), (Option.some 41)), ((9 : Int), (Option.some 42))] = [((5 : Int), (Option.some 38)), ((6 : Int), (Option.some 39)), ((7 : Int), (Option.some 40)), ((8 : Int), (Option.some 41)), ((9 : Int), (Option.some 42))]) ∧ ((((0 : Int), ((0 : Int), ())) = ((0 : Int), ((0 : Int), ()))) ∧ ((((Int.toNat (((Int.toNat z17) : Int) - (2 : Int))) - 0) + (List.length [(y65, (y66, ()))])) = (List.length ((List.take ((Int.toNat (((Int.toNat z17) : Int) - (2 : Int))) - 0) y46) ++ [(y65, (y66, ()))]))))) ∧
    ((y14 (((Nat.succ y45) : Nat) : Int) (((((Int.toNat (((Int.toNat z17) : Int) - (2 : Int))) - 0) + (List.length [(y65, (y66, ()))])) : Nat) : Int) (z18 + (1 : Int)) (((Nat.succ y45) : Nat) : Int) ((List.take ((Int.toNat (((Int.toNat z17) : Int) - (2 : Int))) - 0) y46) ++ [(y65, (y66, ()))])) ∧
    Need ((y15 (((Nat.succ y45) : Nat) : Int) (((((Int.toNat (((Int.toNat z17) : Int) - (2 : Int))) - 0) + (List.length [(y65, (y66, ()))])) : Nat) : Int) (z18 + (1 : Int)) (((Nat.succ y45) : Nat) : Int) ((List.take ((Int.toNat (((Int.toNat z17) : Int) - (2 : Int))) - 0) y46) ++ [(y65, (y66, ()))])) < (y15 z16 z17 z18 z19 z20)))))))))))))))))))))))) ∧
   (((List.getD x0 (Int.toNat z18) ((0 : Int), ((0 : Int), ()))).1 ≠ (9 : Int)) →
   (Need (((-9223372036854775808 : Int) ≤ (((Int.toNat z17) : Int) - (2 : Int))) ∧ ((((Int.toNat z17) : Int) - (2 : Int)) ≤ (9223372036854775807 : Int))) ∧
   (Need (((0 : Int) ≤ (((Int.toNat z17) : Int) - (2 : Int))) ∧ ((((Int.toNat z17) : Int) - (2 : Int)) < ((Int.toNat z17) : Int))) ∧
   (Need (y45 = (Int.toNat z16)) ∧
   (Need ((0 + (Int.toNat (((Int.toNat z17) : Int) - (2 : Int)))) < (List.length y46)) ∧
   (Need (y45 = (Int.toNat z16)) ∧
   (Need ((0 + (Int.toNat (((Int.toNat z17) : Int) - (2 : Int)))) < (List.length y46)) ∧
   (Need (((-9223372036854775808 : Int) ≤ (((Int.toNat z17) : Int) - (1 : Int))) ∧ ((((Int.toNat z17) : Int) - (1 : Int)) ≤ (9223372036854775807 : Int))) ∧
   (Need (((0 : Int) ≤ (((Int.toNat z17) : Int) - (1 : Int))) ∧ ((((Int.toNat z17) : Int) - (1 : Int)) < ((Int.toNat z17) : Int))) ∧
   (Need (y45 = (Int.toNat z16)) ∧
   (Need ((0 + (Int.toNat (((Int.toNat z17) : Int) - (1 : Int)))) < (List.length y46)) ∧
   (Need (y45 = (Int.toNat z16)) ∧
   (Need ((0 + (Int.toNat (((Int.toNat z17) : Int) - (1 : Int)))) < (List.length y46)) ∧
   False))))))))))))))))))))))) ∧
  (((!y44) = false) →
  (Need (((-9223372036854775808 : Int) ≤ (((Int.toNat z17) : Int) - (2 : Int))) ∧ ((((Int.toNat z17) : Int) - (2 : Int)) ≤ (9223372036854775807 : Int))) ∧
  (Need (((0 : Int) ≤ (0 : Int)) ∧ (((0 : Int) ≤ (((Int.toNat z17) : Int) - (2 : Int))) ∧ ((((Int.toNat z17) : Int) - (2 : Int)) ≤ ((Int.toNat z17) : Int)))) ∧
  (Need (((Int.toNat z16) = y45) ∧ ((((Int.toNat (((Int.toNat z17) : Int) - (2 : Int))) - 0) ≤ (List.length y46)) ∧ ((0 < (List.length [(y42, (y43, ()))])) ∧ (((List.length y46) + (List.length [(y42, (y43, ()))])) ≤ bigN)))) ∧
  (Need (((-9223372036854775808 : Int) ≤ (z18 + (1 : Int))) ∧ ((z18 + (1 : Int)) ≤ (9223372036854775807 : Int))) ∧
  (Need (([((5 : Int), (Option.some 38)), ((6 : Int), (Option.some 39)), ((7 : Int), (Option.some 40)), ((8 : Int), (Option.some 41)), ((9 : Int), (Option.some 42))] = [((5 : Int), (Option.some 38)), ((6 : Int), (Option.some 39)), ((7 : Int), (Option.some 40)), ((8 : Int), (Option.some 41)), ((9 : Int), (Option.some 42))]) ∧ ((((0 : Int), ((0 : Int), ())) = ((0 : Int), ((0 : Int), ()))) ∧ ((((Int.toNat (((Int.toNat z17) : Int) - (2 : Int))) - 0) + (List.length [(y42, (y43, ()))])) = (List.length ((List.take ((Int.toNat (((Int.toNat z17) : Int) - (2 : Int))) - 0) y46) ++ [(y42, (y43, ()))]))))) ∧
  ((y14 (((Nat.succ y45) : Nat) : Int) (((((Int.toNat (((Int.toNat z17) : Int) - (2 : Int))) - 0) + (List.length [(y42, (y43, ()))])) : Nat) : Int) (z18 + (1 : Int)) (((Nat.succ y45) : Nat) : Int) ((List.take ((Int.toNat (((Int.toNat z17) : Int) - (2 : Int))) - 0) y46) ++ [(y42, (y43, ()))])) ∧
  Need ((y15 (((Nat.succ y45) : Nat) : Int) (((((Int.toNat (((Int.toNat z17) : Int) - (2 : Int))) - 0) + (List.length [(y42, (y43, ()))])) : Nat) : Int) (z18 + (1 : Int)) (((Nat.succ y45) : Nat) : Int) ((List.take ((Int.toNat (((Int.toNat z17) : Int) - (2 : Int))) - 0) y46) ++ [(y42, (y43, ()))])) < (y15 z16 z17 z18 z19 z20)))))))))))))))))))))))))))) ∧
 (((decide (z18 < ((List.length x0) : Int))) = false) →
 (Need (((0 : Int) ≤ (0 : Int)) ∧ ((0 : Int) < ((Int.toNat z17) : Int))) ∧
 (Need ((Int.toNat z19) = (Int.toNat z16)) ∧
 (Need (0 < (List.length z20)) ∧
 (Q (.tv [] (.pair (.int .i64) (.pair (.int .i64) .unit)) (List.getD z20 0 ((0 : Int), ((0 : Int), ())))) []))))))))))))))))))))))))))) : EvF PP orc 11 [.tv [] (.slice (.pair (.int .i64) (.pair (.int .i64) .unit))) x0, .tv [] (.slice (.pair (.int .i64) (.pair (.int .i64) .unit))) x1, .tv [] (.slice (.int .i64)) x2] [] Q := vcF_ok (sg := sg) (Eq.mp (by kernel_rfl) h)
end Go.Am.V
