/-
  MeterSplit: what is taken in parts is taken at once, where the parts are: the walk of the law.
-/
import Derived.Test.YtgbjjceicpmopaaMeterLaws
namespace Go.Proofs.Ytgbjjceicpmopaa
open Go.RowKit

theorem add_small {U z : Int} (h0 : 0 ≤ U) (h1 : U ≤ 1099511627776) (hz : 0 ≤ z) : add U z = held (U + z) := by
  unfold add held; (repeat' split) <;> omega

set_option maxRecDepth 100000 in
set_option maxHeartbeats 4000000 in
theorem split_calls (w : World) (lim : Int) (_ : -9223372036854775808 ≤ lim ∧ lim ≤ 9223372036854775807) {a : Option Addr} {l cap b o : Nat} {Z : Nat → Int} (H : IntsAt w a l b o Z) (_ : l ≤ cap) (_ : cap ≤ maxLen) (_ : a = none → l = 0 ∧ cap = 0) :
    Calls Try.prog 8 #[.int .i64 lim, .slice a l cap] w (Says w true) := by
  go_enter Try.func8, Try.ntmps8
  go_wp2_with fail
  refine (awake1_calls _).mono ?_
  rintro e w1 ⟨rfl, b1⟩
  go_wp2_with fail
  refine (newm_calls _ _).mono ?_
  rintro e w2 ⟨rfl, m2, c2, s2⟩
  generalize hb : w1.heap.size = mb at *
  have b2 : Below w.heap.size w w2 := b1.trans (c2.below (by have := b1.size; omega) (fun _ => False.elim))
  have hmb : w.heap.size ≤ mb := by have := b1.size; omega
  clear hb b1 c2
  go_wp2_with fail
  refine (newm_calls _ _).mono ?_
  rintro e w3 ⟨rfl, n3, c3, s3⟩
  generalize hb : w2.heap.size = kb at *
  have m3 := m2.chg c3 (fun h => h)
  have b3 := below_none b2 c3
  have hkb : w.heap.size ≤ kb := by have := b2.size; omega
  have hne : kb ≠ mb := by omega
  clear hb b2 c3 m2 s2
  have hl0 : l ≤ 20 ∨ 20 < l := by omega
  have K0 := MOk.new lim
  have K0' := K0
  obtain ⟨y0, y1, y2, y3⟩ := K0'
  rcases hl0 with hl | hl
  · have hl' : (l : Int) ≤ 20 := by omega
    go_wp2_with fail
    go_loopw [8, 9] (fun s i wr => ∃ (k : Nat) (U M : Int), k ≤ l ∧ i = .int .i64 k ∧ s = .int .i64 U ∧ MeterAt wr mb (held lim) U M ∧ MeterAt wr kb (held lim) 0 0 ∧ MOk (held lim) U M ∧ Below w.heap.size w wr) (fun _ i _ => l - (intOf i).toNat)
    case atStart => exact ⟨0, 0, 0, by omega, rfl, rfl, m3, n3, K0, b3⟩
    case round =>
      obtain ⟨k, U, M, hk, rfl, rfl, m4, n4, k4, b4⟩ := hrel
      have k4' := k4
      obtain ⟨g0, g1, g2, g3⟩ := k4'
      by_cases hlt : k < l
      · obtain rfl := H.addr (by omega)
        have hblt := World.block_lt_of_cell? _ _ (H.cell k hlt)
        have x0 : wr.cell? ⟨b, o + k, none⟩ = some (.int .i64 (Z k)) := (b4.cell (p := ⟨b, o + k, none⟩) hblt).trans (H.cell k hlt)
        by_cases hz : Z k < 0
        · go_wp2_with fail
          go_ret
          exact ⟨rfl, b4⟩
        · go_wp2_with fail
          refine (add_calls _ _ _).mono ?_
          rintro e w5 ⟨rfl, rfl⟩
          have hs := add_small g0 (by omega) (show 0 ≤ Z k by omega)
          by_cases hq : held lim - U < Z k
          · have e1 : takeE (held lim) U (Z k) = 5 := by unfold takeE; rw [if_neg (by omega), if_pos (by omega)]
            have e2 := take_calls m4 k4 (Z k)
            rw [e1] at e2
            clear e1
            have E2 := hid e2
            clear e2
            rw [hs]
            clear hs
            go_wp2_with fail
            refine E2.out.mono ?_
            rintro e w5 ⟨rfl, m5, c5⟩
            have n5 := n4.chg c5 hne
            have b5 := below_chg b4 c5 hmb
            go_wp2_with fail
            by_cases hf : held (U + Z k) = 1099511627776
            · refine (take_calls n5 K0 _).mono ?_
              rintro e w6 ⟨rfl, n6, c6⟩
              have b6 := below_chg b5 c6 hkb
              generalize takeE (held lim) 0 (held (U + Z k)) = E at *
              rw [hf]
              clear hf n6
              by_cases hE : E = 5
              · subst hE
                go_wp2_with fail
                go_ret
                exact ⟨rfl, b6⟩
              · have hE' : (E == 5) = false := by simp [hE]
                clear hE
                go_wp2_with fail
                go_ret
                exact ⟨rfl, b6⟩
            · have hd := held_bd (U + Z k)
              have hf2 : held lim - 0 < held (U + Z k) := by
                have : held (U + Z k) = U + Z k := by
                  unfold held at hf ⊢; (repeat' split at hf) <;> (repeat' split) <;> omega
                omega
              have e3 : takeE (held lim) 0 (held (U + Z k)) = 5 := by unfold takeE; rw [if_neg (by omega), if_pos hf2]
              have e4 := take_calls n5 K0 (held (U + Z k))
              rw [e3] at e4
              clear e3 hf hf2
              refine e4.mono ?_
              clear e4
              rintro e w6 ⟨rfl, n6, c6⟩
              have b6 := below_chg b5 c6 hkb
              go_wp2_with fail
              go_ret
              exact ⟨by simp, b6⟩
          · have e1 : takeE (held lim) U (Z k) = 0 := by unfold takeE; rw [if_neg (by omega), if_neg (by omega)]
            have e3 : takeU (held lim) U (Z k) = U + Z k := by unfold takeU; rw [if_neg (by omega), if_neg (by omega)]
            have e2 := take_calls m4 k4 (Z k)
            have k5 := k4.take (Z k)
            rw [e1, e3] at e2
            rw [e3] at k5
            generalize takeM (held lim) U M (Z k) = M2 at *
            clear e1 e3
            have E2 := hid e2
            clear e2
            rw [hs, held_id (by omega) (by omega)]
            clear hs
            go_wp2_with fail
            refine E2.out.mono ?_
            rintro e w5 ⟨rfl, m5, c5⟩
            have n5 := n4.chg c5 hne
            have b5 := below_chg b4 c5 hmb
            go_wp2_with fail
            go_roundw
            case rel => exact ⟨k + 1, U + Z k, M2, by omega, by go_num, rfl, m5, n5, k5, b5⟩
            case measure => simp [intOf]; omega
      · have e1 : takeE (held lim) 0 U = 0 := by unfold takeE; rw [if_neg (by omega), if_neg (by omega)]
        have e3 : takeU (held lim) 0 U = U := by unfold takeU; rw [if_neg (by omega), if_neg (by omega)]; omega
        have e2 := take_calls n4 K0 U
        rw [e1, e3] at e2
        clear e1 e3
        generalize takeM (held lim) 0 0 U = M2 at *
        have E2 := hid e2
        clear e2
        go_wp2_with fail
        refine E2.out.mono ?_
        rintro e w5 ⟨rfl, n5, c5⟩
        have m5 := m4.chg c5 (fun h => hne h.symm)
        have b5 := below_chg b4 c5 hkb
        go_wp2_with fail
        refine (used_calls m5).mono ?_
        rintro e w6 ⟨rfl, rfl⟩
        go_wp2_with fail
        refine (used_calls n5).mono ?_
        rintro e w6 ⟨rfl, rfl⟩
        go_wp2_with fail
        go_ret
        exact ⟨by simp, b5⟩
  · have hl' : 20 < (l : Int) := by omega
    go_wp2_with fail
    go_ret
    exact ⟨rfl, b3⟩

end Go.Proofs.Ytgbjjceicpmopaa
