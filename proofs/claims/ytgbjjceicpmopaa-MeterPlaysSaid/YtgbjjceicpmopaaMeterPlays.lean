/-
  MeterPlays: each answer, and what is used, left, and the most ever, is as the document says: the walk of the law.
-/
import Derived.Test.YtgbjjceicpmopaaMeterDone
namespace Go.Proofs.Ytgbjjceicpmopaa
open Go.RowKit

set_option maxRecDepth 100000 in
set_option maxHeartbeats 4000000 in
theorem plays_calls (w : World) (lim : Int) (_ : -9223372036854775808 ≤ lim ∧ lim ≤ 9223372036854775807) {a : Option Addr} {l cap b o : Nat} {X Y : Nat → Int} (H : PairsAt w a l b o X Y) (_ : l ≤ cap) (_ : cap ≤ maxLen) (_ : a = none → l = 0 ∧ cap = 0) :
    Calls Try.prog 3 #[.int .i64 lim, .slice a l cap] w (Says w true) := by
  go_enter Try.func3, Try.ntmps3
  go_wp2_with fail
  refine (awake1_calls _).mono ?_
  rintro e w1 ⟨rfl, b1⟩
  go_wp2_with fail
  refine (newm_calls _ _).mono ?_
  rintro e w2 ⟨rfl, m2, c2, s2⟩
  generalize hb : w1.heap.size = mb at *
  have b2 : Below w.heap.size w w2 := b1.trans (c2.below (by have := b1.size; omega) (fun _ => False.elim))
  have hmb : w.heap.size ≤ mb := by have := b1.size; omega
  clear hb b1 c2
  go_wp2_with fail
  refine (refHeld_calls _ _).mono ?_
  rintro e w3 ⟨rfl, rfl⟩
  have hl0 : l ≤ 100 ∨ 100 < l := by omega
  have r2 := RefAt.mk w2 (held lim) 0 0
  have m3 := m2.alloc (.cells #[.int .i64 (held lim), .int .i64 0, .int .i64 0] 29)
  have b3 : Below w.heap.size w (w2.alloc (.cells #[.int .i64 (held lim), .int .i64 0, .int .i64 0] 29)) := b2.alloc (by have := b2.size; omega) _
  have hne : mb ≠ w2.heap.size := by omega
  have hrb : w.heap.size ≤ w2.heap.size := b2.size
  rcases hl0 with hl | hl
  · have hl' : (l : Int) ≤ 100 := by omega
    go_wp2_with fail
    generalize w2.alloc (.cells #[.int .i64 (held lim), .int .i64 0, .int .i64 0] 29) = w3 at *
    generalize w2.heap.size = rb at *
    clear m2 b2
    go_loopw [8] (fun i wr => ∃ (k : Nat) (U M : Int), k ≤ l ∧ i = .int .i64 k ∧ MeterAt wr mb (held lim) U M ∧ RefAt wr rb (held lim) U M ∧ MOk (held lim) U M ∧ Below w.heap.size w wr) (fun i _ => l - (intOf i).toNat)
    case atStart => exact ⟨0, 0, 0, by omega, rfl, m3, r2, MOk.new lim, b3⟩
    case round =>
      obtain ⟨k, U, M, hk, rfl, m4, r4, k4, b4⟩ := hrel
      by_cases hlt : k < l
      · obtain rfl := H.addr (by omega)
        have hblt := World.block_lt_of_cell? _ _ (H.cell0 k hlt)
        have x0 : wr.cell? ⟨b, o + k * 2, none⟩ = some (.int .i64 (X k)) := (b4.cell (p := ⟨b, o + k * 2, none⟩) hblt).trans (H.cell0 k hlt)
        have y0 : wr.cell? ⟨b, o + k * 2 + 1, none⟩ = some (.int .i64 (Y k)) := (b4.cell (p := ⟨b, o + k * 2 + 1, none⟩) hblt).trans (H.cell1 k hlt)
        go_wp2_with fail
        refine (done1_calls m4 r4 k4 hne (X k) (Y k)).mono ?_
        rintro e w5 ⟨U', M', rfl, m5, r5, k5, c5⟩
        have b5 := below_two b4 c5 hmb hrb
        go_wp2_with fail
        refine (used_calls m5).mono ?_
        rintro e w6 ⟨rfl, rfl⟩
        go_wp2_with fail
        refine (left_reads m5 k5).mono ?_
        rintro e w6 ⟨rfl, h6, c6⟩
        have m6 : MeterAt w6 mb _ _ _ := m5.chg c6 (fun h => h)
        have r6 : RefAt w6 rb _ _ _ := r5.chg c6 (fun h => h)
        have b6 := below_none b5 c6
        clear h6 c6
        go_wp2_with fail
        refine (most_calls m6).mono ?_
        rintro e w7 ⟨rfl, rfl⟩
        obtain ⟨d0, d1, d2, f0, f1, f2⟩ := r6.cells
        have k6 := k5
        obtain ⟨g0, g1, g2, g3⟩ := k6
        go_wp2_with fail
        go_quiet (fail)
        go_wp2
        go_roundw
        case rel => exact ⟨k + 1, U', M', by omega, by go_num, m6.drewN _, r6.drewN _, k5, b6.drewN _⟩
        case measure => simp [intOf]; omega
      · go_wp2_with fail
        go_ret
        exact ⟨rfl, b4⟩
  · have hl' : 100 < (l : Int) := by omega
    go_wp2_with fail
    go_ret
    exact ⟨rfl, b3⟩

end Go.Proofs.Ytgbjjceicpmopaa
