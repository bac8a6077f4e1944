/-
  MeterBack: what is taken can be given back, and as much as is left can be taken, no more: the walk of the law.
-/
import Derived.Test.YtgbjjceicpmopaaMeterDone
namespace Go.Proofs.Ytgbjjceicpmopaa
open Go.RowKit

set_option maxRecDepth 100000 in
set_option maxHeartbeats 4000000 in
theorem back_calls (w : World) (lim : Int) (_ : -9223372036854775808 ≤ lim ∧ lim ≤ 9223372036854775807) {a : Option Addr} {l cap b o : Nat} {X Y : Nat → Int} (H : PairsAt w a l b o X Y) (_ : l ≤ cap) (_ : cap ≤ maxLen) (_ : a = none → l = 0 ∧ cap = 0)
    (n : Int) (hn : -9223372036854775808 ≤ n ∧ n ≤ 9223372036854775807) :
    Calls Try.prog 7 #[.int .i64 lim, .slice a l cap, .int .i64 n] w (Says w true) := by
  go_enter Try.func7, Try.ntmps7
  go_wp2_with fail
  refine (awake1_calls _).mono ?_
  rintro e w1 ⟨rfl, b1⟩
  go_wp2_with fail
  refine (newm_calls _ _).mono ?_
  rintro e w2 ⟨rfl, m2, c2, s2⟩
  generalize hb : w1.heap.size = mb at *
  have b2 : Below w.heap.size w w2 := b1.trans (c2.below (by have := b1.size; omega) (fun _ => False.elim))
  have hmb : w.heap.size ≤ mb := by have := b1.size; omega
  clear hb b1 c2
  have hl0 : l ≤ 100 ∨ 100 < l := by omega
  have r2 := RefAt.mk w2 (held lim) 0 0
  have m3 := m2.alloc (.cells #[.int .i64 (held lim), .int .i64 0, .int .i64 0] 29)
  have b3 : Below w.heap.size w (w2.alloc (.cells #[.int .i64 (held lim), .int .i64 0, .int .i64 0] 29)) := b2.alloc (by have := b2.size; omega) _
  have hne : mb ≠ w2.heap.size := by omega
  have hrb : w.heap.size ≤ w2.heap.size := b2.size
  rcases hl0 with hl | hl
  · have hl' : (l : Int) ≤ 100 := by omega
    go_wp2_with fail
    refine (refHeld_calls _ _).mono ?_
    rintro e w3 ⟨rfl, rfl⟩
    go_wp2_with fail
    generalize w2.alloc (.cells #[.int .i64 (held lim), .int .i64 0, .int .i64 0] 29) = w3 at *
    generalize w2.heap.size = rb at *
    clear m2 b2
    go_loopw [10] (fun i wr => ∃ (k : Nat) (U M : Int), k ≤ l ∧ i = .int .i64 k ∧ MeterAt wr mb (held lim) U M ∧ RefAt wr rb (held lim) U M ∧ MOk (held lim) U M ∧ Below w.heap.size w wr) (fun i _ => l - (intOf i).toNat)
    case atStart => exact ⟨0, 0, 0, by omega, rfl, m3, r2, MOk.new lim, b3⟩
    case round =>
      obtain ⟨k, U, M, hk, rfl, m4, r4, k4, b4⟩ := hrel
      by_cases hlt : k < l
      · obtain rfl := H.addr (by omega)
        have hblt := World.block_lt_of_cell? _ _ (H.cell0 k hlt)
        have x0 : wr.cell? ⟨b, o + k * 2, none⟩ = some (.int .i64 (X k)) := (b4.cell (p := ⟨b, o + k * 2, none⟩) hblt).trans (H.cell0 k hlt)
        have y0 : wr.cell? ⟨b, o + k * 2 + 1, none⟩ = some (.int .i64 (Y k)) := (b4.cell (p := ⟨b, o + k * 2 + 1, none⟩) hblt).trans (H.cell1 k hlt)
        go_wp2_with fail
        refine (done1_calls m4 r4 k4 hne (X k) (Y k)).mono ?_
        rintro e w5 ⟨U', M', rfl, m5, r5, k5, c5⟩
        have b5 := below_two b4 c5 hmb hrb
        go_wp2_with fail
        go_roundw
        case rel => exact ⟨k + 1, U', M', by omega, by go_num, m5, r5, k5, b5⟩
        case measure => simp [intOf]; omega
      · go_wp2_with fail
        refine (used_calls m4).mono ?_
        rintro e w5 ⟨rfl, rfl⟩
        clear m3 r2 b3
        go_wp2_with fail
        refine (take_calls m4 k4 n).mono ?_
        rintro e w5 ⟨rfl, m5, c5⟩
        have k5 := k4.take n
        have b5 := below_chg b4 c5 hmb
        have k4' := k4
        obtain ⟨g0, g1, g2, g3⟩ := k4'
        by_cases hz : 0 ≤ n ∧ n ≤ held lim - U
        · obtain ⟨hz1, hz2⟩ := hz
          have e1 : takeE (held lim) U n = 0 := by unfold takeE; rw [if_neg (by omega), if_neg (by omega)]
          have e2 : takeU (held lim) U n = U + n := by unfold takeU; rw [if_neg (by omega), if_neg (by omega)]
          rw [e1]
          rw [e2] at m5 k5
          clear e1 e2
          generalize takeM (held lim) U M n = M' at *
          have i1 : giveE (U + n) n = 0 := by unfold giveE; rw [if_neg (by omega)]
          have i2 : giveU (U + n) n = U := by unfold giveU; rw [if_neg (by omega)]; omega
          have j1 := give_calls m5 k5 n
          have j2 := k5.give n
          rw [i1, i2] at j1
          rw [i2] at j2
          clear i1 i2
          have J1 := hid j1
          clear j1
          have h0 : (U != U) = false := by simp
          go_wp2_with fail
          refine J1.out.mono ?_
          rintro e w6 ⟨rfl, m6, c6⟩
          have b6 := below_chg b5 c6 hmb
          go_wp2_with fail
          refine (used_calls m6).mono ?_
          rintro e w7 ⟨rfl, rfl⟩
          go_wp2_with fail
          refine (left_reads m6 j2).mono ?_
          rintro e w7 ⟨rfl, h7, c7⟩
          have m7 : MeterAt w7 mb _ _ _ := m6.chg c7 (fun h => h)
          have b7 := below_none b6 c7
          clear h7 c7
          have i3 : takeE (held lim) U (held lim - U) = 0 := by unfold takeE; rw [if_neg (by omega), if_neg (by omega)]
          have i4 : takeU (held lim) U (held lim - U) = held lim := by unfold takeU; rw [if_neg (by omega), if_neg (by omega)]; omega
          have j3 := take_calls m7 j2 (held lim - U)
          have j4 := j2.take (held lim - U)
          rw [i3, i4] at j3
          rw [i4] at j4
          clear i3 i4
          generalize takeM (held lim) U M' (held lim - U) = M2 at *
          have J3 := hid j3
          clear j3
          go_wp2_with fail
          refine J3.out.mono ?_
          rintro e w8 ⟨rfl, m8, c8⟩
          have b8 := below_chg b7 c8 hmb
          have i5 : takeE (held lim) (held lim) 1 = 5 := by unfold takeE; rw [if_neg (by omega), if_pos (by omega)]
          have i6 : takeU (held lim) (held lim) 1 = held lim := by unfold takeU; rw [if_neg (by omega), if_pos (by omega)]
          have j5 := take_calls m8 j4 1
          have j6 := j4.take 1
          rw [i5, i6] at j5
          rw [i6] at j6
          clear i5 i6
          generalize takeM (held lim) (held lim) M2 1 = M3 at *
          have J5 := hid j5
          clear j5
          go_wp2_with fail
          refine J5.out.mono ?_
          rintro e w9 ⟨rfl, m9, c9⟩
          have b9 := below_chg b8 c9 hmb
          go_wp2_with fail
          refine (left_reads m9 j6).mono ?_
          rintro e w10 ⟨rfl, h10, c10⟩
          have b10 := below_none b9 c10
          clear h10 c10
          have h11 : held lim - held lim = 0 := by omega
          rw [h11]
          go_wp2_with fail
          go_ret
          exact ⟨by simp, b10⟩
        · have e1 : (takeE (held lim) U n == 0) = false := by
            have : takeE (held lim) U n ≠ 0 := by unfold takeE; by_cases q : n < 0; (rw [if_pos q]; omega); rw [if_neg q, if_pos (by omega)]; omega
            simp [this]
          have e2 : takeU (held lim) U n = U := by unfold takeU; by_cases q : n < 0; (rw [if_pos q]); rw [if_neg q, if_pos (by omega)]
          rw [e2] at m5 k5
          clear e2 hz
          generalize takeM (held lim) U M n = M' at *
          generalize takeE (held lim) U n = E at *
          have h0 : (U != U) = false := by simp
          have j2 := k5
          have m6 := m5
          have b6 := b5
          go_wp2_with fail
          refine (used_calls m6).mono ?_
          rintro e w7 ⟨rfl, rfl⟩
          go_wp2_with fail
          refine (left_reads m6 j2).mono ?_
          rintro e w7 ⟨rfl, h7, c7⟩
          have m7 : MeterAt w7 mb _ _ _ := m6.chg c7 (fun h => h)
          have b7 := below_none b6 c7
          clear h7 c7
          have i3 : takeE (held lim) U (held lim - U) = 0 := by unfold takeE; rw [if_neg (by omega), if_neg (by omega)]
          have i4 : takeU (held lim) U (held lim - U) = held lim := by unfold takeU; rw [if_neg (by omega), if_neg (by omega)]; omega
          have j3 := take_calls m7 j2 (held lim - U)
          have j4 := j2.take (held lim - U)
          rw [i3, i4] at j3
          rw [i4] at j4
          clear i3 i4
          generalize takeM (held lim) U M' (held lim - U) = M2 at *
          have J3 := hid j3
          clear j3
          go_wp2_with fail
          refine J3.out.mono ?_
          rintro e w8 ⟨rfl, m8, c8⟩
          have b8 := below_chg b7 c8 hmb
          have i5 : takeE (held lim) (held lim) 1 = 5 := by unfold takeE; rw [if_neg (by omega), if_pos (by omega)]
          have i6 : takeU (held lim) (held lim) 1 = held lim := by unfold takeU; rw [if_neg (by omega), if_pos (by omega)]
          have j5 := take_calls m8 j4 1
          have j6 := j4.take 1
          rw [i5, i6] at j5
          rw [i6] at j6
          clear i5 i6
          generalize takeM (held lim) (held lim) M2 1 = M3 at *
          have J5 := hid j5
          clear j5
          go_wp2_with fail
          refine J5.out.mono ?_
          rintro e w9 ⟨rfl, m9, c9⟩
          have b9 := below_chg b8 c9 hmb
          go_wp2_with fail
          refine (left_reads m9 j6).mono ?_
          rintro e w10 ⟨rfl, h10, c10⟩
          have b10 := below_none b9 c10
          clear h10 c10
          have h11 : held lim - held lim = 0 := by omega
          rw [h11]
          go_wp2_with fail
          go_ret
          exact ⟨by simp, b10⟩
  · have hl' : 100 < (l : Int) := by omega
    go_wp2_with fail
    go_ret
    exact ⟨rfl, b2⟩

end Go.Proofs.Ytgbjjceicpmopaa
