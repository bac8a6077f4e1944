/-
  ArenaRefused: what is refused changes nothing: the walk of the law.
-/
import Derived.Test.YtgbjjceicpmopaaArenaState
import Derived.Deep.RegionHeld3
namespace Go.Proofs.Ytgbjjceicpmopaa
open Go.RowKit

theorem ArS.drew {w0 wr : World} {ab mb : Nat} {L U M : Int} {v : Value} {l : List (Value × Int)} (h : ArS w0 wr ab mb L U M v l) : ArS w0 wr.drew ab mb L U M v l := h.same ((Chg.refl _ _).drew)
theorem TriplesAt.blk {w : World} {a : Option Addr} {l b o : Nat} {X Y Z : Nat → Int} (H : TriplesAt w a l b o X Y Z) {k : Nat} (hk : k < l) : b < w.heap.size := World.block_lt_of_cell? _ _ (H.cell0 k hk)
theorem TriplesAt.at {w wr : World} {a : Option Addr} {l b o : Nat} {X Y Z : Nat → Int} (H : TriplesAt w a l b o X Y Z) (hb : Below w.heap.size w wr) {k : Nat} (hk : k < l) :
    wr.cell? ⟨b, o + k * 3, none⟩ = some (.int .i64 (X k)) ∧ wr.cell? ⟨b, o + k * 3 + 1, none⟩ = some (.int .i64 (Y k)) ∧ wr.cell? ⟨b, o + k * 3 + 2, none⟩ = some (.int .i64 (Z k)) :=
  ⟨(hb.cell (p := ⟨b, o + k * 3, none⟩) (H.blk hk)).trans (H.cell0 k hk), (hb.cell (p := ⟨b, o + k * 3 + 1, none⟩) (H.blk hk)).trans (H.cell1 k hk), (hb.cell (p := ⟨b, o + k * 3 + 2, none⟩) (H.blk hk)).trans (H.cell2 k hk)⟩

set_option maxRecDepth 100000 in
set_option maxHeartbeats 8000000 in
theorem refused_calls (w : World) (lim : Int) (_ : -9223372036854775808 ≤ lim ∧ lim ≤ 9223372036854775807) {a : Option Addr} {l cap b o : Nat} {X Y Z : Nat → Int} (H : TriplesAt w a l b o X Y Z) (_ : l ≤ cap) (_ : cap ≤ maxLen) (_ : a = none → l = 0 ∧ cap = 0) :
    Calls Try.prog 13 #[.int .i64 lim, .slice a l cap] w (Says w true) := by
  go_enter Try.func13, Try.ntmps13
  go_wp2_with fail
  refine (awake2_calls _).mono ?_
  rintro e w1 ⟨rfl, b1⟩
  go_wp2_with fail
  refine (newm_calls _ _).mono ?_
  rintro e w2 ⟨rfl, m2, c2, _⟩
  go_wp2_with fail
  refine (arIntNew_calls _ _).mono ?_
  rintro e w3 ⟨rfl, a3, c3, _⟩
  have s3 := ArS.new b1 m2 (MOk.new lim) c2 rfl rfl a3 c3
  generalize w1.heap.size = mb at s3 ⊢
  generalize w2.heap.size = ab at s3 ⊢
  clear a3 c3 m2 c2 b1
  have hl0 : l ≤ 100 ∨ 100 < l := by omega
  rcases hl0 with hl | hl
  · have hl' : (l : Int) ≤ 100 := by omega
    go_wp2_with fail
    go_loopw [8] (fun i wr => ∃ (k : Nat) (U M : Int) (v : Value) (q : List (Value × Int)), k ≤ l ∧ i = .int .i64 k ∧ ArS w wr ab mb (held lim) U M v q) (fun i _ => l - (intOf i).toNat)
    case atStart => exact ⟨0, 0, 0, _, _, by omega, rfl, s3⟩
    case round =>
      obtain ⟨k, U, M, v, q, hk, rfl, s4⟩ := hrel
      have hlen := s4.len
      by_cases hlt : k < l
      · obtain rfl := H.addr (by omega)
        obtain ⟨x0, y0, z0⟩ := H.at s4.b hlt
        go_wp2_with fail
        refine (arIntLen_calls s4.a).mono ?_
        rintro e w5 ⟨rfl, rfl⟩
        go_wp2_with fail
        refine (arIntCells_calls s4.a).mono ?_
        rintro e w5 ⟨rfl, rfl⟩
        go_wp2_with fail
        refine s4.left.mono ?_
        rintro e w5 ⟨rfl, s5⟩
        clear x0 y0 z0
        obtain ⟨x0, y0, z0⟩ := H.at s5.b hlt
        by_cases h1 : X k = 1
        · have h1' : (X k == 1) = true := by simp [h1]
          clear h1
          by_cases hn : Y k < 1
          · obtain ⟨e1, e2, e3, e4⟩ : putN q (held lim) U (Y k) = 0 ∧ putE (held lim) U (Y k) = 1 ∧ putU (held lim) U (Y k) = U ∧ putL q (held lim) U (Y k) (.int .i64 (Z k)) = q := by unfold putN putE putU putL; simp only [if_pos hn]; exact ⟨trivial, trivial, trivial, trivial⟩
            have t := s5.drew.put (Z k) (Y k)
            unfold ArPut at t
            rw [e1, e2, e3, e4] at t
            clear e1 e2 e3 e4
            have T := hid t
            clear t
            go_wp2_with fail
            go_region_held3 (fun w' => w'.cell? ⟨b, o + k * 3 + 2, none⟩ = some (.int .i64 (Z k)) ∧ w'.cell? ⟨b, o + k * 3 + 1, none⟩ = some (.int .i64 (Y k))) (first | exact ⟨z0, y0⟩ | exact ⟨z6, y6⟩)
              (first | (go_at_call 36; refine T.out.mono ?_; rintro e w6 ⟨M6, v6, rfl, s6⟩; obtain ⟨x6, y6, z6⟩ := H.at s6.b hlt))
            go_wp2_with (first | (go_at_call 37; refine (arIntLen_calls s6.a).mono ?_; rintro e w7 ⟨rfl, rfl⟩) | (go_at_call 38; refine (arIntCells_calls s6.a).mono ?_; rintro e w7 ⟨rfl, rfl⟩) | (go_at_call 20; refine s6.left.mono ?_; rintro e w7 ⟨rfl, s7⟩))
            go_roundw
            case rel => exact ⟨k + 1, U, _, _, _, by omega, by go_num, s7⟩
            case measure => simp [intOf]; omega
          · by_cases hu : held lim - U < Y k
            · obtain ⟨e1, e2, e3, e4⟩ : putN q (held lim) U (Y k) = 0 ∧ putE (held lim) U (Y k) = 5 ∧ putU (held lim) U (Y k) = U ∧ putL q (held lim) U (Y k) (.int .i64 (Z k)) = q := by unfold putN putE putU putL; simp only [if_neg hn, if_pos hu]; exact ⟨trivial, trivial, trivial, trivial⟩
              have t := s5.drew.put (Z k) (Y k)
              unfold ArPut at t
              rw [e1, e2, e3, e4] at t
              clear e1 e2 e3 e4
              have T := hid t
              clear t
              go_wp2_with fail
              go_region_held3 (fun w' => w'.cell? ⟨b, o + k * 3 + 2, none⟩ = some (.int .i64 (Z k)) ∧ w'.cell? ⟨b, o + k * 3 + 1, none⟩ = some (.int .i64 (Y k))) (first | exact ⟨z0, y0⟩ | exact ⟨z6, y6⟩)
                (first | (go_at_call 36; refine T.out.mono ?_; rintro e w6 ⟨M6, v6, rfl, s6⟩; obtain ⟨x6, y6, z6⟩ := H.at s6.b hlt))
              go_wp2_with (first | (go_at_call 37; refine (arIntLen_calls s6.a).mono ?_; rintro e w7 ⟨rfl, rfl⟩) | (go_at_call 38; refine (arIntCells_calls s6.a).mono ?_; rintro e w7 ⟨rfl, rfl⟩) | (go_at_call 20; refine s6.left.mono ?_; rintro e w7 ⟨rfl, s7⟩))
              go_roundw
              case rel => exact ⟨k + 1, U, _, _, _, by omega, by go_num, s7⟩
              case measure => simp [intOf]; omega
            · obtain ⟨e2, e1, e3, e4⟩ := put_ok (l := q) (L := held lim) (U := U) (n := Y k) (x := .int .i64 (Z k)) (by omega) (by omega)
              have t := s5.drew.put (Z k) (Y k)
              unfold ArPut at t
              rw [e1, e2, e3, e4] at t
              clear e1 e2 e3 e4
              have T := hid t
              clear t
              go_wp2_with fail
              go_region_held3 (fun w' => w'.cell? ⟨b, o + k * 3 + 2, none⟩ = some (.int .i64 (Z k)) ∧ w'.cell? ⟨b, o + k * 3 + 1, none⟩ = some (.int .i64 (Y k))) (first | exact ⟨z0, y0⟩ | exact ⟨z6, y6⟩)
                (first | (go_at_call 36; refine T.out.mono ?_; rintro e w6 ⟨M6, v6, rfl, s6⟩; obtain ⟨x6, y6, z6⟩ := H.at s6.b hlt))
              go_wp2_with fail
              go_roundw
              case rel => exact ⟨k + 1, _, _, _, _, by omega, by go_num, s6⟩
              case measure => simp [intOf]; omega
        · have h1' : (X k == 1) = false := by simp [h1]
          clear h1
          by_cases h3 : X k = 3
          · have h3' : (X k == 3) = true := by simp [h3]
            clear h3
            by_cases hin : 0 ≤ Y k
            · by_cases hin2 : Y k < q.length
              · have e1 := isIn_yes ⟨hin, hin2⟩
                have t := s5.drew.set (Y k) (Z k)
                unfold ArSet at t
                rw [e1] at t
                clear e1
                have T := hid t
                clear t
                go_wp2_with fail
                go_region_held3 (fun w' => w'.cell? ⟨b, o + k * 3 + 1, none⟩ = some (.int .i64 (Y k)) ∧ w'.cell? ⟨b, o + k * 3 + 2, none⟩ = some (.int .i64 (Z k))) (first | exact ⟨y0, z0⟩ | exact ⟨y6, z6⟩)
                  (first | (go_at_call 40; refine T.out.mono ?_; rintro e w6 ⟨M6, v6, rfl, s6⟩; obtain ⟨x6, y6, z6⟩ := H.at s6.b hlt))
                go_wp2_with fail
                go_roundw
                case rel => exact ⟨k + 1, _, _, _, _, by omega, by go_num, s6⟩
                case measure => simp [intOf]; omega
              · have e1 : isIn q.length (Y k) = false := isIn_no (by omega)
                have t := s5.drew.set (Y k) (Z k)
                unfold ArSet at t
                rw [e1, if_neg (by simp)] at t
                clear e1
                have T := hid t
                clear t
                go_wp2_with fail
                go_region_held3 (fun w' => w'.cell? ⟨b, o + k * 3 + 1, none⟩ = some (.int .i64 (Y k)) ∧ w'.cell? ⟨b, o + k * 3 + 2, none⟩ = some (.int .i64 (Z k))) (first | exact ⟨y0, z0⟩ | exact ⟨y6, z6⟩)
                  (first | (go_at_call 40; refine T.out.mono ?_; rintro e w6 ⟨M6, v6, rfl, s6⟩; obtain ⟨x6, y6, z6⟩ := H.at s6.b hlt))
                go_wp2_with (first | (go_at_call 37; refine (arIntLen_calls s6.a).mono ?_; rintro e w7 ⟨rfl, rfl⟩) | (go_at_call 38; refine (arIntCells_calls s6.a).mono ?_; rintro e w7 ⟨rfl, rfl⟩) | (go_at_call 20; refine s6.left.mono ?_; rintro e w7 ⟨rfl, s7⟩))
                go_roundw
                case rel => exact ⟨k + 1, U, _, _, _, by omega, by go_num, s7⟩
                case measure => simp [intOf]; omega
            · have e1 : isIn q.length (Y k) = false := isIn_no (by omega)
              have t := s5.drew.set (Y k) (Z k)
              unfold ArSet at t
              rw [e1, if_neg (by simp)] at t
              clear e1
              have T := hid t
              clear t
              go_wp2_with fail
              go_region_held3 (fun w' => w'.cell? ⟨b, o + k * 3 + 1, none⟩ = some (.int .i64 (Y k)) ∧ w'.cell? ⟨b, o + k * 3 + 2, none⟩ = some (.int .i64 (Z k))) (first | exact ⟨y0, z0⟩ | exact ⟨y6, z6⟩)
                (first | (go_at_call 40; refine T.out.mono ?_; rintro e w6 ⟨M6, v6, rfl, s6⟩; obtain ⟨x6, y6, z6⟩ := H.at s6.b hlt))
              go_wp2_with (first | (go_at_call 37; refine (arIntLen_calls s6.a).mono ?_; rintro e w7 ⟨rfl, rfl⟩) | (go_at_call 38; refine (arIntCells_calls s6.a).mono ?_; rintro e w7 ⟨rfl, rfl⟩) | (go_at_call 20; refine s6.left.mono ?_; rintro e w7 ⟨rfl, s7⟩))
              go_roundw
              case rel => exact ⟨k + 1, U, _, _, _, by omega, by go_num, s7⟩
              case measure => simp [intOf]; omega
          · have h3' : (X k == 3) = false := by simp [h3]
            clear h3
            by_cases h4 : X k = 4
            · have h4' : (X k == 4) = true := by simp [h4]
              clear h4
              go_wp2_with fail
              refine (s5.cut (Y k)).mono ?_
              rintro e w6 ⟨M6, v6, rfl, s6⟩
              go_wp2_with fail
              go_roundw
              case rel => exact ⟨k + 1, _, _, _, _, by omega, by go_num, s6⟩
              case measure => simp [intOf]; omega
            · have h4' : (X k == 4) = false := by simp [h4]
              clear h4
              go_wp2_with fail
              go_roundw
              case rel => exact ⟨k + 1, _, _, _, _, by omega, by go_num, s5⟩
              case measure => simp [intOf]; omega
      · go_wp2_with fail
        go_ret
        exact ⟨rfl, s4.b⟩
  · have hl' : 100 < (l : Int) := by omega
    go_wp2_with fail
    go_ret
    exact ⟨rfl, s3.b⟩

end Go.Proofs.Ytgbjjceicpmopaa
