/-
  What the document's meter (package tronageref01) does to a world: each call by a contract.
-/
import Derived.Test.YtgbjjceicpmopaaMeter
namespace Go.Proofs.Ytgbjjceicpmopaa
open Go.RowKit

/-- The document's meter lies alone in a block of its own. -/
def RefAt (w : World) (b : Nat) (L U M : Int) : Prop := w.heap[b]? = some (.cells #[.int .i64 L, .int .i64 U, .int .i64 M] 29 (0, 0))

theorem RefAt.cells {w : World} {b : Nat} {L U M : Int} (h : RefAt w b L U M) :
    w.cell? ⟨b, 0, none⟩ = some (.int .i64 L) ∧ w.cell? ⟨b, 1, none⟩ = some (.int .i64 U) ∧ w.cell? ⟨b, 2, none⟩ = some (.int .i64 M) ∧
    w.frozen? ⟨b, 0, none⟩ = false ∧ w.frozen? ⟨b, 1, none⟩ = false ∧ w.frozen? ⟨b, 2, none⟩ = false := by
  unfold RefAt at h
  simp [World.cell?, World.frozen?, h]
theorem RefAt.lt {w : World} {b : Nat} {L U M : Int} (h : RefAt w b L U M) : b < w.heap.size := lt_of_block h
theorem RefAt.drewN {w : World} {b : Nat} {L U M : Int} (h : RefAt w b L U M) (n : Nat) : RefAt (w.drewN n) b L U M := h
theorem RefAt.chg {S : Nat → Prop} {w w' : World} {b : Nat} {L U M : Int} (h : RefAt w b L U M) (hc : Chg S w w') (hs : ¬ S b) : RefAt w' b L U M := (hc.block b h.lt hs).trans h
theorem RefAt.setUsed {w : World} {b : Nat} {L U M : Int} (h : RefAt w b L U M) (U' : Int) : RefAt (w.setCell ⟨b, 1, none⟩ (.int .i64 U')) b L U' M := (heap_setCell_same h).trans (by simp)
theorem RefAt.setMost {w : World} {b : Nat} {L U M : Int} (h : RefAt w b L U M) (M' : Int) : RefAt (w.setCell ⟨b, 2, none⟩ (.int .i64 M')) b L U M' := (heap_setCell_same h).trans (by simp)
theorem RefAt.mk (w : World) (L U M : Int) : RefAt (w.alloc (.cells #[.int .i64 L, .int .i64 U, .int .i64 M] 29)) w.heap.size L U M := by
  unfold RefAt; show (w.heap.push _)[w.heap.size]? = _; simp

def RefMetered (w : World) (b : Nat) (L U M : Int) (r : Int) (e : Ending) (w' : World) : Prop :=
  e = .returned (.int .i64 r) ∧ RefAt w' b L U M ∧ Chg (· = b) w w'

set_option maxHeartbeats 1000000 in
theorem refTake_calls {w : World} {b : Nat} {L U M : Int} (h : RefAt w b L U M) (h0 : MOk L U M) (n : Int) :
    Calls Try.prog 45 #[.pointer (some ⟨b, 0, none⟩), .int .i64 n] w (RefMetered w b L (takeU L U n) (takeM L U M n) (takeE L U n)) := by
  obtain ⟨c0, c1, c2, f0, f1, f2⟩ := h.cells
  obtain ⟨g0, g1, g2, g3⟩ := h0
  have H := hid h
  by_cases h1 : n < 0
  · have e1 : takeU L U n = U := if_pos h1
    have e2 : takeM L U M n = M := if_pos h1
    have e3 : takeE L U n = 1 := if_pos h1
    rw [e1, e2, e3]
    clear e1 e2 e3 h
    go_enter Try.func45, Try.ntmps45
    go_wp2
    go_ret
    exact ⟨rfl, H.out, Chg.refl _ _⟩
  · by_cases h2 : L - U < n
    · have e1 : takeU L U n = U := by unfold takeU; rw [if_neg h1, if_pos h2]
      have e2 : takeM L U M n = M := by unfold takeM; rw [if_neg h1, if_pos h2]
      have e3 : takeE L U n = 5 := by unfold takeE; rw [if_neg h1, if_pos h2]
      rw [e1, e2, e3]
      clear e1 e2 e3 h
      go_enter Try.func45, Try.ntmps45
      go_wp2
      go_quiet (fail)
      go_wp2
      go_ret
      exact ⟨rfl, H.out.drewN _, (Chg.refl _ _).drewN _⟩
    · have e1 : takeU L U n = U + n := by unfold takeU; rw [if_neg h1, if_neg h2]
      have e3 : takeE L U n = 0 := by unfold takeE; rw [if_neg h1, if_neg h2]
      rw [e1, e3]
      clear e1 e3 h
      by_cases h3 : M < U + n
      · have e2 : takeM L U M n = U + n := by unfold takeM; rw [if_neg h1, if_neg h2, if_pos h3]
        rw [e2]
        clear e2
        go_enter Try.func45, Try.ntmps45
        go_wp2
        go_quiet (fail)
        go_wp2
        go_region
        go_wp2
        go_ret
        exact ⟨rfl, ((H.out.drewN _).setUsed _).setMost _, ((((Chg.refl _ _).drewN _).setAt _).drew).setAt _⟩
      · have e2 : takeM L U M n = M := by unfold takeM; rw [if_neg h1, if_neg h2, if_neg h3]
        rw [e2]
        clear e2
        go_enter Try.func45, Try.ntmps45
        go_wp2
        go_quiet (fail)
        go_wp2
        go_region
        go_wp2
        go_ret
        exact ⟨rfl, ((H.out.drewN _).setUsed _), ((((Chg.refl _ _).drewN _).setAt _).drew)⟩

set_option maxHeartbeats 1000000 in
theorem refGive_calls {w : World} {b : Nat} {L U M : Int} (h : RefAt w b L U M) (h0 : MOk L U M) (n : Int) :
    Calls Try.prog 46 #[.pointer (some ⟨b, 0, none⟩), .int .i64 n] w (RefMetered w b L (giveU U n) M (giveE U n)) := by
  obtain ⟨c0, c1, c2, f0, f1, f2⟩ := h.cells
  obtain ⟨g0, g1, g2, g3⟩ := h0
  have H := hid h
  by_cases h1 : n < 0 ∨ U < n
  · have e1 : giveU U n = U := if_pos h1
    have e3 : giveE U n = 1 := if_pos h1
    rw [e1, e3]
    clear e1 e3 h
    go_enter Try.func46, Try.ntmps46
    go_wp2
    all_goals go_ret
    all_goals exact ⟨rfl, H.out, Chg.refl _ _⟩
  · have e1 : giveU U n = U - n := if_neg h1
    have e3 : giveE U n = 0 := if_neg h1
    rw [e1, e3]
    clear e1 e3 h
    have h2 : 0 ≤ n := by omega
    have h3 : n ≤ U := by omega
    clear h1
    go_enter Try.func46, Try.ntmps46
    go_wp2
    go_ret
    exact ⟨rfl, H.out.setUsed _, (Chg.refl _ _).setAt _⟩

end Go.Proofs.Ytgbjjceicpmopaa
