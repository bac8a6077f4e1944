/-
  The chapter's examples of the package arena come out as the statements say.
-/
import Derived.Test.YtgbjjceicpmopaaArenaCutStr
import Derived.Test.YtgbjjceicpmopaaMeterLaws
namespace Go.Proofs.Ytgbjjceicpmopaa
open Go.RowKit

theorem below_ar {w w1 w2 : World} {b mb : Nat} {v : Value} (h : Below w.heap.size w w1) (hc : Chg (fun k => k = b ∨ k = mb ∨ v.ownBlock = some k) w1 w2) (hb : w.heap.size ≤ b) (hm : w.heap.size ≤ mb) (hr : ∀ k, v.ownBlock = some k → w.heap.size ≤ k) : Below w.heap.size w w2 :=
  h.trans (hc.below h.size (fun k e => by rcases e with rfl | rfl | e; exact hb; exact hm; exact hr k e))

set_option maxRecDepth 100000 in
set_option maxHeartbeats 2000000 in
theorem awake2_calls (w : World) : Calls Try.prog 29 #[] w (Says w true) := by
  go_enter Try.func29, Try.ntmps29
  go_wp2_with fail
  refine (newm_calls _ _).mono ?_
  rintro e w1 ⟨rfl, m1, c1, s1⟩
  have b1 := below_none (Below.refl _ w) c1
  obtain ⟨mb, hmb1⟩ : ∃ mb, mb = w.heap.size := ⟨_, rfl⟩
  have hmb : w.heap.size ≤ mb := by omega
  rw [← hmb1] at m1 ⊢
  clear hmb1 s1
  have m1 : MeterAt w1 mb 5 0 0 := m1
  go_wp2_with fail
  refine (arStrNew_calls _ _).mono ?_
  rintro e w2 ⟨rfl, a2, c2, s2⟩
  have hab : w.heap.size ≤ w1.heap.size := b1.size
  have b2 := below_none b1 c2
  have m2 := m1.chg c2 (fun h => h)
  generalize w1.heap.size = ab at hab a2 s2 ⊢
  have a2 := a2 w.heap.size
  clear c1 c2 m1 b1
  have r2 : ∀ k, (Value.slice none 0 0).ownBlock = some k → w.heap.size ≤ k := fun k h => by simp [Value.ownBlock] at h
  go_wp2_with fail
  refine (arStrPut_calls a2 m2 (by unfold MOk; omega) (by decide) b2.size _ _).mono ?_
  rintro e w3 ⟨v3, rfl, a3, m3, c3, _⟩
  rw [show putN [] 5 0 2 = 0 from by decide, show putE 5 0 2 = 0 from by decide]
  have b3 := below_ar b2 c3 hab hmb r2
  have r3 : ∀ k, v3.ownBlock = some k → w.heap.size ≤ k := fun k h => (a3.rowLt h).1
  have a3 : ArStrAt w3 w.heap.size ab mb v3 [(.string { data := #[97] }, 2)] := a3
  have m3 : MeterAt w3 mb 5 2 2 := m3
  clear c3 m2 a2 b2 r2
  go_wp2_with fail
  refine (arStrPut_calls a3 m3 (by unfold MOk; omega) (by decide) b3.size _ _).mono ?_
  rintro e w4 ⟨v4, rfl, a4, m4, c4, _⟩
  rw [show putN [(.string { data := #[97] }, 2)] 5 2 4 = 0 from by decide, show putE 5 2 4 = 5 from by decide]
  have b4 := below_ar b3 c4 hab hmb r3
  have r4 : ∀ k, v4.ownBlock = some k → w.heap.size ≤ k := fun k h => (a4.rowLt h).1
  have a4 : ArStrAt w4 w.heap.size ab mb v4 [(.string { data := #[97] }, 2)] := a4
  have m4 : MeterAt w4 mb 5 2 2 := m4
  clear c4 m3 a3 b3 r3
  go_wp2_with fail
  refine (arStrPut_calls a4 m4 (by unfold MOk; omega) (by decide) b4.size _ _).mono ?_
  rintro e w5 ⟨v5, rfl, a5, m5, c5, _⟩
  rw [show putN [(.string { data := #[97] }, 2)] 5 2 3 = 1 from by decide, show putE 5 2 3 = 0 from by decide]
  have b5 := below_ar b4 c5 hab hmb r4
  have r5 : ∀ k, v5.ownBlock = some k → w.heap.size ≤ k := fun k h => (a5.rowLt h).1
  have a5 : ArStrAt w5 w.heap.size ab mb v5 [(.string { data := #[97] }, 2), (.string { data := #[99] }, 3)] := a5
  have m5 : MeterAt w5 mb 5 5 5 := m5
  clear c5 m4 a4 b4 r4
  go_wp2_with fail
  refine (arStrAt_calls a5 _).mono ?_
  rintro e w6 ⟨rfl, rfl⟩
  rw [show arStrVal [(.string { data := #[97] }, 2), (.string { data := #[99] }, 3)] 1 = .string { data := #[99] } from rfl, show isIn ([(.string { data := #[97] }, 2), (.string { data := #[99] }, 3)] : List (Value × Int)).length 1 = true from rfl]
  go_wp2_with fail
  refine (arStrCut_calls a5 m5 (by unfold MOk; omega) (by decide) b5.size _).mono ?_
  rintro e w6 ⟨v6, rfl, a6, m6, c6, _⟩
  rw [show cost (List.drop (cutK ([(.string { data := #[97] }, 2), (.string { data := #[99] }, 3)] : List (Value × Int)).length 1) [(.string { data := #[97] }, 2), (.string { data := #[99] }, 3)]) = 3 from rfl]
  have b6 := below_ar b5 c6 hab hmb r5
  have a6 : ArStrAt w6 w.heap.size ab mb v6 [(.string { data := #[97] }, 2)] := a6
  clear c6 m5 a5 b5 r5 m6
  go_wp2_with fail
  refine (arStrAt_calls a6 _).mono ?_
  rintro e w7 ⟨rfl, rfl⟩
  rw [show arStrVal [(.string { data := #[97] }, 2)] 1 = .string { data := #[] } from rfl, show isIn ([(.string { data := #[97] }, 2)] : List (Value × Int)).length 1 = false from rfl]
  go_wp2_with (go_at_call 47; refine (arStrCells_calls a6).mono ?_; rintro e w8 ⟨rfl, rfl⟩)
  go_ret
  exact ⟨rfl, b6⟩

end Go.Proofs.Ytgbjjceicpmopaa
