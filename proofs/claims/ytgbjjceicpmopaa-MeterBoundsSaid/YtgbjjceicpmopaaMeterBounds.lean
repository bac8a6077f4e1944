/-
  MeterBounds: never is more used than the limit; what is refused changes nothing: the walk of the law.
-/
import Derived.Test.YtgbjjceicpmopaaMeterLaws
namespace Go.Proofs.Ytgbjjceicpmopaa
open Go.RowKit

/-- What a step leaves of a meter: its answer is none, or it changed nothing. -/
def Stepped (w : World) (b : Nat) (L U M : Int) (e : Ending) (w' : World) : Prop :=
  ∃ r U' M' : Int, e = .returned (.int .i64 r) ∧ MeterAt w' b L U' M' ∧ MOk L U' M' ∧ M ≤ M' ∧ Chg (· = b) w w' ∧ (r = 0 ∨ ((r != 0) = true ∧ U' = U))

theorem take_stepped {w : World} {b : Nat} {L U M : Int} (h : MeterAt w b L U M) (h0 : MOk L U M) (n : Int) :
    Calls Try.prog 26 #[.pointer (some ⟨b, 0, none⟩), .int .i64 n] w (Stepped w b L U M) :=
  (take_calls h h0 n).mono fun _ _ ⟨he, hm, hc⟩ => ⟨_, _, _, he, hm, h0.take n, by unfold takeM; (repeat' split) <;> omega, hc, by
    unfold takeE takeU; by_cases h1 : n < 0
    · rw [if_pos h1, if_pos h1]; exact .inr ⟨rfl, rfl⟩
    · by_cases h2 : L - U < n
      · rw [if_neg h1, if_neg h1, if_pos h2, if_pos h2]; exact .inr ⟨rfl, rfl⟩
      · rw [if_neg h1, if_neg h1, if_neg h2, if_neg h2]; exact .inl rfl⟩
theorem give_stepped {w : World} {b : Nat} {L U M : Int} (h : MeterAt w b L U M) (h0 : MOk L U M) (n : Int) :
    Calls Try.prog 27 #[.pointer (some ⟨b, 0, none⟩), .int .i64 n] w (Stepped w b L U M) :=
  (give_calls h h0 n).mono fun _ _ ⟨he, hm, hc⟩ => ⟨_, _, _, he, hm, h0.give n, Int.le_refl _, hc, by
    unfold giveE giveU; by_cases h1 : n < 0 ∨ U < n
    · rw [if_pos h1, if_pos h1]; exact .inr ⟨rfl, rfl⟩
    · rw [if_neg h1, if_neg h1]; exact .inl rfl⟩

theorem sum_back (a b : Int) : (a + (b - a) != b) = false := by rw [show a + (b - a) = b by omega]; simp

set_option maxRecDepth 100000 in
set_option maxHeartbeats 4000000 in
theorem bounds_calls (w : World) (lim : Int) (_ : -9223372036854775808 ≤ lim ∧ lim ≤ 9223372036854775807) {a : Option Addr} {l cap b o : Nat} {X Y : Nat → Int} (H : PairsAt w a l b o X Y) (_ : l ≤ cap) (_ : cap ≤ maxLen) (_ : a = none → l = 0 ∧ cap = 0) :
    Calls Try.prog 5 #[.int .i64 lim, .slice a l cap] w (Says w true) := by
  go_enter Try.func5, Try.ntmps5
  go_wp2_with fail
  refine (awake1_calls _).mono ?_
  rintro e w1 ⟨rfl, b1⟩
  go_wp2_with fail
  refine (newm_calls _ _).mono ?_
  rintro e w2 ⟨rfl, m2, c2, s2⟩
  generalize hb : w1.heap.size = mb at *
  have b2 : Below w.heap.size w w2 := b1.trans (c2.below (by have := b1.size; omega) (fun _ => False.elim))
  have hmb : w.heap.size ≤ mb := by have := b1.size; omega
  have Hb := hid hb
  clear hb
  by_cases hl : l ≤ 100
  · have hl' : (l : Int) ≤ 100 := by omega
    go_wp2_with fail
    go_loopw [7] (fun i wr => ∃ (k : Nat) (U M : Int), k ≤ l ∧ i = .int .i64 k ∧ MeterAt wr mb (held lim) U M ∧ MOk (held lim) U M ∧ Below w.heap.size w wr) (fun i _ => l - (intOf i).toNat)
    case atStart => exact ⟨0, 0, 0, by omega, rfl, m2, MOk.new lim, b2⟩
    case round =>
      obtain ⟨k, U, M, hk, rfl, m3, k3, b3⟩ := hrel
      by_cases hlt : k < l
      · obtain rfl := H.addr (by omega)
        have hblt := World.block_lt_of_cell? _ _ (H.cell0 k hlt)
        have x0 : wr.cell? ⟨b, o + k * 2, none⟩ = some (.int .i64 (X k)) := (b3.cell (p := ⟨b, o + k * 2, none⟩) hblt).trans (H.cell0 k hlt)
        have y0 : wr.cell? ⟨b, o + k * 2 + 1, none⟩ = some (.int .i64 (Y k)) := (b3.cell (p := ⟨b, o + k * 2 + 1, none⟩) hblt).trans (H.cell1 k hlt)
        go_wp2_with fail
        refine (used_calls m3).mono ?_
        rintro e w4 ⟨rfl, rfl⟩
        go_wp2_with fail
        refine (most_calls m3).mono ?_
        rintro e w4 ⟨rfl, rfl⟩
        by_cases h1 : X k = 1
        · have h1' : (X k == 1) = true := by simp [h1]
          clear h1
          go_wp2_with fail
          refine (take_stepped m3 k3 (Y k)).mono ?_
          rintro e w4 ⟨r, U', M', rfl, m4, k4, g4, c4, hr⟩
          have b4 := below_chg b3 c4 hmb
          rcases hr with rfl | ⟨hr1, rfl⟩
          · go_wp2_with fail
            refine (used_calls m4).mono ?_
            rintro e w5 ⟨rfl, rfl⟩
            go_wp2_with fail
            refine (left_reads m4 k4).mono ?_
            rintro e w5 ⟨rfl, h5, c5⟩
            have m5 : MeterAt w5 mb _ _ _ := m4.chg c5 (fun h => h)
            have b5 := below_none b4 c5
            clear h5 c5
            have k4' := k4
            obtain ⟨g1, g2, g3, g5⟩ := k4'
            have g6 : (U' + (held lim - U') != held lim) = false := sum_back _ _
            go_wp2_with (first | (go_at_call 17; refine (refHeld_calls _ _).mono ?_; rintro e w' ⟨rfl, rfl⟩) | (go_at_call 21; refine (most_calls m5).mono ?_; rintro e w' ⟨rfl, rfl⟩))
            go_roundw
            case rel => exact ⟨k + 1, U', M', by omega, by go_num, m5, k4, b5⟩
            case measure => simp [intOf]; omega
          · go_wp2_with fail
            refine (used_calls m4).mono ?_
            rintro e w5 ⟨rfl, rfl⟩
            go_wp2_with fail
            refine (left_reads m4 k4).mono ?_
            rintro e w5 ⟨rfl, h5, c5⟩
            have m5 : MeterAt w5 mb _ _ _ := m4.chg c5 (fun h => h)
            have b5 := below_none b4 c5
            clear h5 c5
            have k4' := k4
            obtain ⟨g1, g2, g3, g5⟩ := k4'
            have g6 : (U' + (held lim - U') != held lim) = false := sum_back _ _
            go_wp2_with (first | (go_at_call 17; refine (refHeld_calls _ _).mono ?_; rintro e w' ⟨rfl, rfl⟩) | (go_at_call 21; refine (most_calls m5).mono ?_; rintro e w' ⟨rfl, rfl⟩))
            go_roundw
            case rel => exact ⟨k + 1, U', M', by omega, by go_num, m5, k4, b5⟩
            case measure => simp [intOf]; omega
        · have h1' : (X k == 1) = false := by simp [h1]
          clear h1
          by_cases h2 : X k = 2
          · have h2' : (X k == 2) = true := by simp [h2]
            clear h2
            go_wp2_with fail
            refine (give_stepped m3 k3 (Y k)).mono ?_
            rintro e w4 ⟨r, U', M', rfl, m4, k4, g4, c4, hr⟩
            have b4 := below_chg b3 c4 hmb
            rcases hr with rfl | ⟨hr1, rfl⟩
            · go_wp2_with fail
              refine (used_calls m4).mono ?_
              rintro e w5 ⟨rfl, rfl⟩
              go_wp2_with fail
              refine (left_reads m4 k4).mono ?_
              rintro e w5 ⟨rfl, h5, c5⟩
              have m5 : MeterAt w5 mb _ _ _ := m4.chg c5 (fun h => h)
              have b5 := below_none b4 c5
              clear h5 c5
              have k4' := k4
              obtain ⟨g1, g2, g3, g5⟩ := k4'
              have g6 : (U' + (held lim - U') != held lim) = false := sum_back _ _
              go_wp2_with (first | (go_at_call 17; refine (refHeld_calls _ _).mono ?_; rintro e w' ⟨rfl, rfl⟩) | (go_at_call 21; refine (most_calls m5).mono ?_; rintro e w' ⟨rfl, rfl⟩))
              go_roundw
              case rel => exact ⟨k + 1, U', M', by omega, by go_num, m5, k4, b5⟩
              case measure => simp [intOf]; omega
            · go_wp2_with fail
              refine (used_calls m4).mono ?_
              rintro e w5 ⟨rfl, rfl⟩
              go_wp2_with fail
              refine (left_reads m4 k4).mono ?_
              rintro e w5 ⟨rfl, h5, c5⟩
              have m5 : MeterAt w5 mb _ _ _ := m4.chg c5 (fun h => h)
              have b5 := below_none b4 c5
              clear h5 c5
              have k4' := k4
              obtain ⟨g1, g2, g3, g5⟩ := k4'
              have g6 : (U' + (held lim - U') != held lim) = false := sum_back _ _
              go_wp2_with (first | (go_at_call 17; refine (refHeld_calls _ _).mono ?_; rintro e w' ⟨rfl, rfl⟩) | (go_at_call 21; refine (most_calls m5).mono ?_; rintro e w' ⟨rfl, rfl⟩))
              go_roundw
              case rel => exact ⟨k + 1, U', M', by omega, by go_num, m5, k4, b5⟩
              case measure => simp [intOf]; omega
          · have h2' : (X k == 2) = false := by simp [h2]
            clear h2
            by_cases h3 : X k = 3
            · have h3' : (X k == 3) = true := by simp [h3]
              clear h3
              go_wp2_with fail
              refine (reset_metered m3).mono ?_
              rintro e w4 ⟨rfl, m4, c4⟩
              have b4 := below_chg b3 c4 hmb
              have k4 := k3.reset
              obtain ⟨U', hU⟩ : ∃ U' : Int, U' = 0 := ⟨0, rfl⟩
              rw [← hU] at m4 k4
              have HU := hid hU
              clear hU
              obtain ⟨M', hM, g4⟩ : ∃ M' : Int, M' = M ∧ M ≤ M' := ⟨M, rfl, Int.le_refl _⟩
              rw [← hM] at m4 k4
              have HM := hid hM
              clear hM
              go_wp2_with fail
              refine (used_calls m4).mono ?_
              rintro e w5 ⟨rfl, rfl⟩
              go_wp2_with fail
              refine (left_reads m4 k4).mono ?_
              rintro e w5 ⟨rfl, h5, c5⟩
              have m5 : MeterAt w5 mb _ _ _ := m4.chg c5 (fun h => h)
              have b5 := below_none b4 c5
              clear h5 c5
              have k4' := k4
              obtain ⟨g1, g2, g3, g5⟩ := k4'
              have g6 : (U' + (held lim - U') != held lim) = false := sum_back _ _
              go_wp2_with (first | (go_at_call 17; refine (refHeld_calls _ _).mono ?_; rintro e w' ⟨rfl, rfl⟩) | (go_at_call 21; refine (most_calls m5).mono ?_; rintro e w' ⟨rfl, rfl⟩))
              go_roundw
              case rel => exact ⟨k + 1, U', M', by omega, by go_num, m5, k4, b5⟩
              case measure => simp [intOf]; omega
            · have h3' : (X k == 3) = false := by simp [h3]
              clear h3
              have b4 := b3
              have k4 := k3
              have m4 := m3
              obtain ⟨U', hU⟩ : ∃ U' : Int, U' = U := ⟨U, rfl⟩
              rw [← hU] at m4 k4
              have HU := hid hU
              clear hU
              obtain ⟨M', hM, g4⟩ : ∃ M' : Int, M' = M ∧ M ≤ M' := ⟨M, rfl, Int.le_refl _⟩
              rw [← hM] at m4 k4
              have HM := hid hM
              clear hM
              go_wp2_with fail
              refine (used_calls m4).mono ?_
              rintro e w5 ⟨rfl, rfl⟩
              go_wp2_with fail
              refine (left_reads m4 k4).mono ?_
              rintro e w5 ⟨rfl, h5, c5⟩
              have m5 : MeterAt w5 mb _ _ _ := m4.chg c5 (fun h => h)
              have b5 := below_none b4 c5
              clear h5 c5
              have k4' := k4
              obtain ⟨g1, g2, g3, g5⟩ := k4'
              have g6 : (U' + (held lim - U') != held lim) = false := sum_back _ _
              go_wp2_with (first | (go_at_call 17; refine (refHeld_calls _ _).mono ?_; rintro e w' ⟨rfl, rfl⟩) | (go_at_call 21; refine (most_calls m5).mono ?_; rintro e w' ⟨rfl, rfl⟩))
              go_roundw
              case rel => exact ⟨k + 1, U', M', by omega, by go_num, m5, k4, b5⟩
              case measure => simp [intOf]; omega
      · go_wp2_with fail
        go_ret
        exact ⟨rfl, b3⟩
  · have hl' : 100 < (l : Int) := by omega
    go_wp2_with fail
    go_ret
    exact ⟨rfl, b2⟩

end Go.Proofs.Ytgbjjceicpmopaa
