/-
  The chapter's examples of the package meter come out as the statements say.
-/
import Derived.Test.YtgbjjceicpmopaaMeter
import Derived.Test.YtgbjjceicpmopaaLaw
namespace Go.Proofs.Ytgbjjceicpmopaa
open Go.RowKit

/-- A call that answers a bool and leaves what was there. -/
def Says (w : World) (b : Bool) (e : Ending) (w' : World) : Prop := e = .returned (.bool b) ∧ Below w.heap.size w w'

theorem Metered.next {w w' : World} {b : Nat} {L U M r : Int} {e : Ending} (h : Metered w b L U M r e w') : e = .returned (.int .i64 r) ∧ MeterAt w' b L U M ∧ Chg (· = b) w w' := h

set_option maxHeartbeats 1000000 in
theorem awake1_calls (w : World) : Calls Try.prog 15 #[] w (Says w true) := by
  go_enter Try.func15, Try.ntmps15
  go_wp2_with fail
  refine (newm_calls _ _).mono ?_
  rintro e w1 ⟨rfl, m1, c1, s1⟩
  generalize hb : w.heap.size = b at *
  have m1 : MeterAt w1 b 5 0 0 := m1
  go_wp2_with fail
  refine (take_calls m1 (by unfold MOk; omega) 3).mono ?_
  rintro e w2 ⟨rfl, m2, c2⟩
  have m2 : MeterAt w2 b 5 3 3 := m2
  go_wp2_with fail
  refine (take_calls m2 (by unfold MOk; omega) 3).mono ?_
  rintro e w3 ⟨rfl, m3, c3⟩
  have m3 : MeterAt w3 b 5 3 3 := m3
  go_wp2_with fail
  refine (left_reads m3 (by unfold MOk; omega)).mono ?_
  rintro e w4 ⟨rfl, h4, c4⟩
  have m4 : MeterAt w4 b 5 3 3 := m3.chg c4 (fun h => h)
  clear h4
  go_wp2_with fail
  refine (give_calls m4 (by unfold MOk; omega) 1).mono ?_
  rintro e w5 ⟨rfl, m5, c5⟩
  have m5 : MeterAt w5 b 5 2 3 := m5
  go_wp2_with fail
  refine (most_calls m5).mono ?_
  rintro e w5' ⟨rfl, rfl⟩
  go_wp2_with fail
  refine (reset_metered m5).mono ?_
  rintro e w6 ⟨rfl, m6, c6⟩
  have t1 : takeE (held 5) 0 3 = 0 := by decide
  have t2 : takeE 5 3 3 = 5 := by decide
  have t3 : giveE 3 1 = 0 := by decide
  have t1' : takeE 5 0 3 = 0 := by decide
  rw [t1', t2, t3]
  go_wp2_with (go_at_call 24; refine (mul_calls _ _ _).mono ?_; rintro e w7 ⟨rfl, rfl⟩)
  have t4 : mul 1073741824 1073741824 = 1099511627776 := by decide
  rw [t4]
  go_ret
  subst hb
  refine ⟨by simp, Chg.belowNew ?_⟩
  have F : ∀ k, k = w.heap.size → w.heap.size ≤ k := fun k h => by omega
  exact ((((((c1.of_none).trans (c2.mono F)).trans (c3.mono F)).trans c4.of_none).trans (c5.mono F)).trans (c6.mono F))

/-- What a call leaves that answers a bool, and has changed nothing that was there. -/
theorem Says.next {w w' : World} {b : Bool} {e : Ending} (h : Says w b e w') : e = .returned (.bool b) ∧ Below w.heap.size w w' := h

set_option maxHeartbeats 1000000 in
theorem reckons_calls (w : World) (a : Int) (_ : -9223372036854775808 ≤ a ∧ a ≤ 9223372036854775807) (b : Int) (_ : -9223372036854775808 ≤ b ∧ b ≤ 9223372036854775807) : Calls Try.prog 4 #[.int .i64 a, .int .i64 b] w (Says w true) := by
  go_enter Try.func4, Try.ntmps4
  go_wp2_with (first
    | (go_at_call 15; refine (awake1_calls _).mono ?_; rintro e w1 ⟨rfl, b1⟩)
    | (go_at_call 22; refine (add_calls _ _ _).mono ?_; rintro e w' ⟨rfl, rfl⟩)
    | (go_at_call 24; refine (mul_calls _ _ _).mono ?_; rintro e w' ⟨rfl, rfl⟩)
    | (go_at_call 23; refine (refAdd_calls _ _ _).mono ?_; rintro e w' ⟨rfl, rfl⟩)
    | (go_at_call 25; refine (refMul_calls _ _ _).mono ?_; rintro e w' ⟨rfl, rfl⟩))
  go_ret
  exact ⟨by simp, b1⟩

theorem add_comm' (a b : Int) : add a b = add b a := by unfold add; rw [Int.add_comm]
theorem mul_comm' (a b : Int) : mul a b = mul b a := by unfold mul; rw [Int.mul_comm]
theorem add_assoc' (a b c : Int) : add (add a b) c = add a (add b c) := by
  have ha := held_bd a; have hb := held_bd b; have hc := held_bd c
  unfold add
  rw [held_held, held_held]
  generalize held a = x at *; generalize held b = y at *; generalize held c = z at *
  unfold held; (repeat' split) <;> omega
theorem held_mul {x c : Int} (hx : 0 ≤ x) (hc : 0 ≤ c) : held (held x * c) = held (x * c) := by
  by_cases h : x ≤ 1099511627776
  · rw [held_id hx h]
  · rw [held_hi (n := x) (by omega)]
    by_cases h0 : c = 0
    · subst h0; simp
    · have h1 : 1099511627776 * 1 ≤ 1099511627776 * c := Int.mul_le_mul_of_nonneg_left (by omega) (by omega)
      have h2 : 1099511627776 * c ≤ x * c := Int.mul_le_mul_of_nonneg_right (by omega) hc
      rw [held_hi (by omega), held_hi (by omega)]
theorem mul_assoc' (a b c : Int) : mul (mul a b) c = mul a (mul b c) := by
  have ha := held_bd a; have hb := held_bd b; have hc := held_bd c
  unfold mul
  rw [held_held, held_held, held_mul (Int.mul_nonneg ha.1 hb.1) hc.1, Int.mul_comm (held a) (held (held b * held c)), held_mul (Int.mul_nonneg hb.1 hc.1) ha.1, Int.mul_assoc, Int.mul_comm (held a)]
theorem held_mono {a b : Int} (h : a ≤ b) : held a ≤ held b := by unfold held; (repeat' split) <;> omega
theorem add_mono {a b c : Int} (h : b ≤ c) : add a b ≤ add a c := held_mono (by have := held_mono h; omega)
theorem mul_mono {a b c : Int} (h : b ≤ c) : mul a b ≤ mul a c := held_mono (Int.mul_le_mul_of_nonneg_left (held_mono h) (held_bd a).1)

set_option maxHeartbeats 1000000 in
theorem order_calls (w : World) (a : Int) (_ : -9223372036854775808 ≤ a ∧ a ≤ 9223372036854775807) (b : Int) (_ : -9223372036854775808 ≤ b ∧ b ≤ 9223372036854775807) (c : Int) (_ : -9223372036854775808 ≤ c ∧ c ≤ 9223372036854775807) :
    Calls Try.prog 6 #[.int .i64 a, .int .i64 b, .int .i64 c] w (Says w true) := by
  have h1 : (add a b == add b a) = true := by rw [add_comm']; simp
  have h2 : (add (add a b) c == add a (add b c)) = true := by rw [add_assoc']; simp
  have h3 : (mul a b == mul b a) = true := by rw [mul_comm']; simp
  have h4 : (mul (mul a b) c == mul a (mul b c)) = true := by rw [mul_assoc']; simp
  by_cases hbc : b ≤ c
  · have h5 : add a b ≤ add a c := add_mono hbc
    have h6 : mul a b ≤ mul a c := mul_mono hbc
    go_enter Try.func6, Try.ntmps6
    go_wp2_with (first
      | (go_at_call 15; refine (awake1_calls _).mono ?_; rintro e w1 ⟨rfl, b1⟩)
      | (go_at_call 22; refine (add_calls _ _ _).mono ?_; rintro e w' ⟨rfl, rfl⟩)
      | (go_at_call 24; refine (mul_calls _ _ _).mono ?_; rintro e w' ⟨rfl, rfl⟩))
    go_ret
    exact ⟨rfl, b1⟩
  · go_enter Try.func6, Try.ntmps6
    go_wp2_with (first
      | (go_at_call 15; refine (awake1_calls _).mono ?_; rintro e w1 ⟨rfl, b1⟩)
      | (go_at_call 22; refine (add_calls _ _ _).mono ?_; rintro e w' ⟨rfl, rfl⟩)
      | (go_at_call 24; refine (mul_calls _ _ _).mono ?_; rintro e w' ⟨rfl, rfl⟩))
    go_ret
    exact ⟨rfl, b1⟩

end Go.Proofs.Ytgbjjceicpmopaa
