/-
  What is done by both meters, the program's and the document's, is the same.
-/
import Derived.Test.YtgbjjceicpmopaaMeterRef
import Derived.Test.YtgbjjceicpmopaaMeterLaws
import Derived.Deep.RegionHeld3
namespace Go.Proofs.Ytgbjjceicpmopaa
open Go.RowKit

/-- Both did the same. -/
def BothDid (w : World) (mb rb : Nat) (L : Int) (e : Ending) (w' : World) : Prop :=
  ∃ U M : Int, e = .returned (.bool true) ∧ MeterAt w' mb L U M ∧ RefAt w' rb L U M ∧ MOk L U M ∧ Chg (fun k => k = mb ∨ k = rb) w w'

theorem BothDid.mk {w w' : World} {mb rb : Nat} {L U M : Int} (hm : MeterAt w' mb L U M) (hr : RefAt w' rb L U M) (h0 : MOk L U M) (hc : Chg (fun k => k = mb ∨ k = rb) w w') : BothDid w mb rb L (.returned (.bool true)) w' :=
  ⟨U, M, rfl, hm, hr, h0, hc⟩

theorem MeterAt.alloc {w : World} {b : Nat} {L U M : Int} (h : MeterAt w b L U M) (o : Obj) : MeterAt (w.alloc o) b L U M := (Below.heap_alloc _ _ _ h.lt).trans h
theorem RefAt.alloc {w : World} {b : Nat} {L U M : Int} (h : RefAt w b L U M) (o : Obj) : RefAt (w.alloc o) b L U M := (Below.heap_alloc _ _ _ h.lt).trans h

set_option maxHeartbeats 2000000 in
theorem done1_take {w : World} {mb rb : Nat} {L U M : Int} (hm : MeterAt w mb L U M) (hr : RefAt w rb L U M) (h0 : MOk L U M) (hne : mb ≠ rb) (n : Int) :
    Calls Try.prog 18 #[.pointer (some ⟨mb, 0, none⟩), .pointer (some ⟨rb, 0, none⟩), .agg #[.int .i64 1, .int .i64 n]] w (BothDid w mb rb L) := by
  have hm1 := hm.alloc (.cells #[.int .i64 1, .int .i64 n] 32)
  have hr1 := hr.alloc (.cells #[.int .i64 1, .int .i64 n] 32)
  have hlt := hm.lt
  have hlt2 := hr.lt
  have hx : (w.alloc (.cells #[.int .i64 1, .int .i64 n] 32)).cell? ⟨w.heap.size, 1, none⟩ = some (.int .i64 n) := by simp
  have hc0 : Chg (fun k => k = mb ∨ k = rb) w (w.alloc (.cells #[.int .i64 1, .int .i64 n] 32)) := (Chg.refl _ _).alloc _
  have hs : w.heap.size < (w.alloc (.cells #[.int .i64 1, .int .i64 n] 32)).heap.size := by simp
  go_enter Try.func18, Try.ntmps18
  go_wp2_with fail
  generalize w.alloc (.cells #[.int .i64 1, .int .i64 n] 32) = w1 at *
  go_region_held3 (fun w' => w'.cell? ⟨w.heap.size, 1, none⟩ = some (.int .i64 n)) (first | exact hx | exact hx2 | exact hx3)
    (first
      | (go_at_call 26; refine (take_calls (by exact hm1) h0 n).mono ?_; rintro e w2 ⟨rfl, m2, c2⟩; have c2 := c2.undrew; have hr2 := hr1.chg c2 (fun h => hne h.symm); have hx2 := (Chg.cellAt c2 hs (by omega)).trans hx)
      | (go_at_call 45; refine (refTake_calls (by exact hr2) h0 n).mono ?_; rintro e w3 ⟨rfl, r3, c3⟩; have m3 := m2.chg c3 hne; have hx3 := (Chg.cellAt c3 (Nat.lt_of_lt_of_le hs c2.size) (by omega)).trans hx2))
  go_wp2
  go_ret
  exact BothDid.mk m3 r3 (h0.take n) ((hc0.trans (c2.mono (fun _ h => .inl h))).trans (c3.mono (fun _ h => .inr h)))

set_option maxHeartbeats 2000000 in
theorem done1_give {w : World} {mb rb : Nat} {L U M : Int} (hm : MeterAt w mb L U M) (hr : RefAt w rb L U M) (h0 : MOk L U M) (hne : mb ≠ rb) (n : Int) :
    Calls Try.prog 18 #[.pointer (some ⟨mb, 0, none⟩), .pointer (some ⟨rb, 0, none⟩), .agg #[.int .i64 2, .int .i64 n]] w (BothDid w mb rb L) := by
  have hm1 := hm.alloc (.cells #[.int .i64 2, .int .i64 n] 32)
  have hr1 := hr.alloc (.cells #[.int .i64 2, .int .i64 n] 32)
  have hlt := hm.lt
  have hlt2 := hr.lt
  have hx : (w.alloc (.cells #[.int .i64 2, .int .i64 n] 32)).cell? ⟨w.heap.size, 1, none⟩ = some (.int .i64 n) := by simp
  have hc0 : Chg (fun k => k = mb ∨ k = rb) w (w.alloc (.cells #[.int .i64 2, .int .i64 n] 32)) := (Chg.refl _ _).alloc _
  have hs : w.heap.size < (w.alloc (.cells #[.int .i64 2, .int .i64 n] 32)).heap.size := by simp
  go_enter Try.func18, Try.ntmps18
  go_wp2_with fail
  generalize w.alloc (.cells #[.int .i64 2, .int .i64 n] 32) = w1 at *
  go_region_held3 (fun w' => w'.cell? ⟨w.heap.size, 1, none⟩ = some (.int .i64 n)) (first | exact hx | exact hx2 | exact hx3)
    (first
      | (go_at_call 27; refine (give_calls (by exact hm1) h0 n).mono ?_; rintro e w2 ⟨rfl, m2, c2⟩; have c2 := c2.undrew; have hr2 := hr1.chg c2 (fun h => hne h.symm); have hx2 := (Chg.cellAt c2 hs (by omega)).trans hx)
      | (go_at_call 46; refine (refGive_calls (by exact hr2) h0 n).mono ?_; rintro e w3 ⟨rfl, r3, c3⟩; have m3 := m2.chg c3 hne; have hx3 := (Chg.cellAt c3 (Nat.lt_of_lt_of_le hs c2.size) (by omega)).trans hx2))
  go_wp2
  go_ret
  exact BothDid.mk m3 r3 (h0.give n) ((hc0.trans (c2.mono (fun _ h => .inl h))).trans (c3.mono (fun _ h => .inr h)))

set_option maxHeartbeats 2000000 in
theorem done1_reset {w : World} {mb rb : Nat} {L U M : Int} (hm : MeterAt w mb L U M) (hr : RefAt w rb L U M) (h0 : MOk L U M) (hne : mb ≠ rb) (n : Int) :
    Calls Try.prog 18 #[.pointer (some ⟨mb, 0, none⟩), .pointer (some ⟨rb, 0, none⟩), .agg #[.int .i64 3, .int .i64 n]] w (BothDid w mb rb L) := by
  have hm1 := hm.alloc (.cells #[.int .i64 3, .int .i64 n] 32)
  have hr1 := hr.alloc (.cells #[.int .i64 3, .int .i64 n] 32)
  have hlt := hm.lt
  have hlt2 := hr.lt
  have hx : (w.alloc (.cells #[.int .i64 3, .int .i64 n] 32)).cell? ⟨w.heap.size, 0, none⟩ = some (.int .i64 3) := by simp
  have hc0 : Chg (fun k => k = mb ∨ k = rb) w (w.alloc (.cells #[.int .i64 3, .int .i64 n] 32)) := (Chg.refl _ _).alloc _
  obtain ⟨c0, c1, c2, f0, f1, f2⟩ := hr.cells
  go_enter Try.func18, Try.ntmps18
  go_wp2_with fail
  refine (reset_metered (w := _) (L := L) (U := U) (M := M) ?_).mono ?_
  · exact (hm.chg (Chg.setAt (Chg.refl _ _) _) hne).alloc _
  rintro e w2 ⟨rfl, m2, c2'⟩
  go_wp2
  go_ret
  exact BothDid.mk m2 (((hr.setUsed 0).alloc _).chg c2' (fun h => hne h.symm)) h0.reset (((Chg.mono (Chg.setAt (Chg.refl _ _) _) (fun _ h => .inr h)).alloc _).trans (c2'.mono (fun _ h => .inl h)))

set_option maxHeartbeats 2000000 in
theorem done1_other {w : World} {mb rb : Nat} {L U M : Int} (hm : MeterAt w mb L U M) (hr : RefAt w rb L U M) (h0 : MOk L U M) (d n : Int) (h1 : d ≠ 1) (h2 : d ≠ 2) (h3 : d ≠ 3) :
    Calls Try.prog 18 #[.pointer (some ⟨mb, 0, none⟩), .pointer (some ⟨rb, 0, none⟩), .agg #[.int .i64 d, .int .i64 n]] w (BothDid w mb rb L) := by
  have h1' : (d == 1) = false := by simp [h1]
  have h2' : (d == 2) = false := by simp [h2]
  have h3' : (d == 3) = false := by simp [h3]
  have hm1 := hm.alloc (.cells #[.int .i64 d, .int .i64 n] 32)
  have hr1 := hr.alloc (.cells #[.int .i64 d, .int .i64 n] 32)
  clear h1 h2 h3
  go_enter Try.func18, Try.ntmps18
  go_wp2
  go_ret
  exact BothDid.mk hm1 hr1 h0 ((Chg.refl _ _).alloc _)

theorem done1_calls {w : World} {mb rb : Nat} {L U M : Int} (hm : MeterAt w mb L U M) (hr : RefAt w rb L U M) (h0 : MOk L U M) (hne : mb ≠ rb) (d n : Int) :
    Calls Try.prog 18 #[.pointer (some ⟨mb, 0, none⟩), .pointer (some ⟨rb, 0, none⟩), .agg #[.int .i64 d, .int .i64 n]] w (BothDid w mb rb L) := by
  by_cases h1 : d = 1
  · subst h1; exact done1_take hm hr h0 hne n
  by_cases h2 : d = 2
  · subst h2; exact done1_give hm hr h0 hne n
  by_cases h3 : d = 3
  · subst h3; exact done1_reset hm hr h0 hne n
  exact done1_other hm hr h0 d n h1 h2 h3

end Go.Proofs.Ytgbjjceicpmopaa
