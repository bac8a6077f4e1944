/-
  The chapter's examples of the package meter come out as the statements say.
-/
import Derived.Test.YtgbjjceicpmopaaMeter
namespace Go.Proofs.Ytgbjjceicpmopaa
open Go.RowKit

/-- A call that answers a bool and leaves what was there. -/
def Says (w : World) (b : Bool) (e : Ending) (w' : World) : Prop := e = .returned (.bool b) ∧ Below w.heap.size w w'

theorem Metered.next {w w' : World} {b : Nat} {L U M r : Int} {e : Ending} (h : Metered w b L U M r e w') : e = .returned (.int .i64 r) ∧ MeterAt w' b L U M ∧ Chg (· = b) w w' := h

set_option maxHeartbeats 1000000 in
theorem awake1_calls (w : World) : Calls Try.prog 15 #[] w (Says w true) := by
  go_enter Try.func15, Try.ntmps15
  go_wp2_with fail
  refine (newm_calls _ _).mono ?_
  rintro e w1 ⟨rfl, m1, c1, s1⟩
  generalize hb : w.heap.size = b at *
  have m1 : MeterAt w1 b 5 0 0 := m1
  go_wp2_with fail
  refine (take_calls m1 (by unfold MOk; omega) 3).mono ?_
  rintro e w2 ⟨rfl, m2, c2⟩
  have m2 : MeterAt w2 b 5 3 3 := m2
  go_wp2_with fail
  refine (take_calls m2 (by unfold MOk; omega) 3).mono ?_
  rintro e w3 ⟨rfl, m3, c3⟩
  have m3 : MeterAt w3 b 5 3 3 := m3
  go_wp2_with fail
  refine (left_reads m3 (by unfold MOk; omega)).mono ?_
  rintro e w4 ⟨rfl, h4, c4⟩
  have m4 : MeterAt w4 b 5 3 3 := m3.chg c4 (fun h => h)
  clear h4
  go_wp2_with fail
  refine (give_calls m4 (by unfold MOk; omega) 1).mono ?_
  rintro e w5 ⟨rfl, m5, c5⟩
  have m5 : MeterAt w5 b 5 2 3 := m5
  go_wp2_with fail
  refine (most_calls m5).mono ?_
  rintro e w5' ⟨rfl, rfl⟩
  go_wp2_with fail
  refine (reset_metered m5).mono ?_
  rintro e w6 ⟨rfl, m6, c6⟩
  have t1 : takeE (held 5) 0 3 = 0 := by decide
  have t2 : takeE 5 3 3 = 5 := by decide
  have t3 : giveE 3 1 = 0 := by decide
  have t1' : takeE 5 0 3 = 0 := by decide
  rw [t1', t2, t3]
  go_wp2_with (go_at_call 24; refine (mul_calls _ _ _).mono ?_; rintro e w7 ⟨rfl, rfl⟩)
  have t4 : mul 1073741824 1073741824 = 1099511627776 := by decide
  rw [t4]
  go_ret
  subst hb
  refine ⟨by simp, Chg.belowNew ?_⟩
  have F : ∀ k, k = w.heap.size → w.heap.size ≤ k := fun k h => by omega
  exact ((((((c1.none).trans (c2.mono F)).trans (c3.mono F)).trans c4.none).trans (c5.mono F)).trans (c6.mono F))

/-- What a call leaves that answers a bool, and has changed nothing that was there. -/
theorem Says.next {w w' : World} {b : Bool} {e : Ending} (h : Says w b e w') : e = .returned (.bool b) ∧ Below w.heap.size w w' := h

set_option maxHeartbeats 1000000 in
theorem reckons_calls (w : World) (a : Int) (_ : -9223372036854775808 ≤ a ∧ a ≤ 9223372036854775807) (b : Int) (_ : -9223372036854775808 ≤ b ∧ b ≤ 9223372036854775807) : Calls Try.prog 4 #[.int .i64 a, .int .i64 b] w (Says w true) := by
  go_enter Try.func4, Try.ntmps4
  go_wp2_with (first
    | (go_at_call 15; refine (awake1_calls _).mono ?_; rintro e w1 ⟨rfl, b1⟩)
    | (go_at_call 22; refine (add_calls _ _ _).mono ?_; rintro e w' ⟨rfl, rfl⟩)
    | (go_at_call 24; refine (mul_calls _ _ _).mono ?_; rintro e w' ⟨rfl, rfl⟩)
    | (go_at_call 23; refine (refAdd_calls _ _ _).mono ?_; rintro e w' ⟨rfl, rfl⟩)
    | (go_at_call 25; refine (refMul_calls _ _ _).mono ?_; rintro e w' ⟨rfl, rfl⟩))
  go_ret
  exact ⟨by simp, b1⟩

end Go.Proofs.Ytgbjjceicpmopaa
