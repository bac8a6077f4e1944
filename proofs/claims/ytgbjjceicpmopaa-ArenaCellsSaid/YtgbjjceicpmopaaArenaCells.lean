/-
  ArenaCells: the cells of all arenas of a meter are what it has used: the walk of the law.
-/
import Derived.Test.YtgbjjceicpmopaaArenaTwo
namespace Go.Proofs.Ytgbjjceicpmopaa
open Go.RowKit

theorem two_zero (a b : Int) {c : Int} (h : a + b = c) : (a + b != c) = false := by rw [h]; simp

set_option maxRecDepth 100000 in
set_option maxHeartbeats 8000000 in
theorem acells_calls (w : World) (lim : Int) (_ : -9223372036854775808 ≤ lim ∧ lim ≤ 9223372036854775807) {a : Option Addr} {l cap b o : Nat} {X Y Z : Nat → Int} (H : TriplesAt w a l b o X Y Z) (_ : l ≤ cap) (_ : cap ≤ maxLen) (_ : a = none → l = 0 ∧ cap = 0)
    {a2 : Option Addr} {lw cap2 b2 o2 : Nat} {W : Nat → Bool} (HW : BoolsAt w a2 lw b2 o2 W) (_ : lw ≤ cap2) (hcw : cap2 ≤ maxLen) (_ : a2 = none → lw = 0 ∧ cap2 = 0) :
    Calls Try.prog 14 #[.int .i64 lim, .slice a l cap, .slice a2 lw cap2] w (Says w true) := by
  unfold maxLen at hcw
  go_enter Try.func14, Try.ntmps14
  go_wp2_with fail
  refine (awake2_calls _).mono ?_
  rintro e w1 ⟨rfl, b1⟩
  go_wp2_with fail
  refine (newm_calls _ _).mono ?_
  rintro e w2 ⟨rfl, m2, c2, _⟩
  go_wp2_with fail
  refine (arIntNew_calls _ _).mono ?_
  rintro e w3 ⟨rfl, a3, c3, n3⟩
  go_wp2_with fail
  refine (arIntNew_calls _ _).mono ?_
  rintro e w4 ⟨rfl, a4, c4, _⟩
  have s4 : Ar2 w w4 w2.heap.size w3.heap.size w1.heap.size (held lim) 0 0 (.slice none 0 0) (.slice none 0 0) [] [] :=
    ⟨(m2.chg c3 (fun h => h)).chg c4 (fun h => h), MOk.new lim, (a3 _).chg c4 (fun h => h) (fun _ _ h => h), a4 _, rfl, below_none (below_none (below_none b1 c2) c3) c4, b1.size, Nat.le_trans b1.size c2.size, Nat.le_trans (Nat.le_trans b1.size c2.size) c3.size, by omega,
      fun k h => by simp [Value.ownBlock] at h⟩
  generalize w1.heap.size = mb at s4 ⊢
  generalize w2.heap.size = ab at s4 ⊢
  generalize w3.heap.size = bb at s4 ⊢
  clear a3 c3 m2 c2 b1 n3 a4 c4
  have hl0 : l ≤ 100 ∨ 100 < l := by omega
  rcases hl0 with hl | hl
  · have hl' : (l : Int) ≤ 100 := by omega
    go_wp2_with fail
    go_loopw [11] (fun i wr => ∃ (k : Nat) (U M : Int) (v1 v2 : Value) (q1 q2 : List (Value × Int)), k ≤ l ∧ i = .int .i64 k ∧ Ar2 w wr ab bb mb (held lim) U M v1 v2 q1 q2) (fun i _ => l - (intOf i).toNat)
    case atStart => exact ⟨0, 0, 0, _, _, _, _, by omega, rfl, s4⟩
    case round =>
      obtain ⟨k, U, M, v1, v2, q1, q2, hk, rfl, s5⟩ := hrel
      clear s4
      by_cases hlt : k < l
      · obtain rfl := H.addr (by omega)
        obtain ⟨x0, y0, z0⟩ := H.at s5.b hlt
        have hsel : (k < lw ∧ W k = true) ∨ (k < lw ∧ W k = false) ∨ ¬ k < lw := by
          by_cases hw : k < lw
          · cases hW : W k
            · exact .inr (.inl ⟨hw, rfl⟩)
            · exact .inl ⟨hw, rfl⟩
          · exact .inr (.inr hw)
        rcases hsel with ⟨hw, hW⟩ | ⟨hw, hW⟩ | hw
        · obtain rfl := HW.addr (by omega)
          have hbw : b2 < w.heap.size := World.block_lt_of_cell? _ _ (HW.cell k hw)
          have u0 : wr.cell? ⟨b2, o2 + k, none⟩ = some (.bool true) := by rw [← hW]; exact (s5.b.cell (p := ⟨b2, o2 + k, none⟩) hbw).trans (HW.cell k hw)
          clear hW
          by_cases h1 : X k = 1
          · have h1' : (X k == 1) = true := by simp [h1]
            clear h1
            go_wp2_with fail
            go_region_held3 (fun w' => w'.cell? ⟨b, o + k * 3 + 2, none⟩ = some (.int .i64 (Z k)) ∧ w'.cell? ⟨b, o + k * 3 + 1, none⟩ = some (.int .i64 (Y k))) (first | exact ⟨z0, y0⟩ | exact ⟨z6, y6⟩)
              (first | (go_at_call 36; refine (s5.swap.drew.put (Z k) (Y k)).mono ?_; rintro e w6 ⟨U6, M6, v6, q6, r1, r2, rfl, t6⟩; have s6 := t6.swap; obtain ⟨x6, y6, z6⟩ := H.at s6.b hlt))
            have hln := s6.len
            have hne := two_zero _ _ s6.c
            go_wp2_with (first | (go_at_call_of 38 (Value.pointer (some ⟨ab, 0, none⟩)); refine (arIntCells_calls s6.a).mono ?_; rintro e w7 ⟨rfl, rfl⟩) | (go_at_call_of 38 (Value.pointer (some ⟨bb, 0, none⟩)); refine (arIntCells_calls s6.a2).mono ?_; rintro e w7 ⟨rfl, rfl⟩) | (go_at_call_of 37 (Value.pointer (some ⟨ab, 0, none⟩)); refine (arIntLen_calls s6.a).mono ?_; rintro e w7 ⟨rfl, rfl⟩) | (go_at_call_of 37 (Value.pointer (some ⟨bb, 0, none⟩)); refine (arIntLen_calls s6.a2).mono ?_; rintro e w7 ⟨rfl, rfl⟩) | (go_at_call 19; refine (used_calls s6.m).mono ?_; rintro e w7 ⟨rfl, rfl⟩) | (go_at_call 17; refine (refHeld_calls _ _).mono ?_; rintro e w7 ⟨rfl, rfl⟩))
            go_roundw
            case rel => exact ⟨k + 1, _, _, _, _, _, _, by omega, by go_num, s6⟩
            case measure => simp [intOf]; omega
          · have h1' : (X k == 1) = false := by simp [h1]
            clear h1
            by_cases h3 : X k = 3
            · have h3' : (X k == 3) = true := by simp [h3]
              clear h3
              go_wp2_with fail
              go_region_held3 (fun w' => w'.cell? ⟨b, o + k * 3 + 1, none⟩ = some (.int .i64 (Y k)) ∧ w'.cell? ⟨b, o + k * 3 + 2, none⟩ = some (.int .i64 (Z k))) (first | exact ⟨y0, z0⟩ | exact ⟨y6, z6⟩)
                (first | (go_at_call 40; refine (s5.swap.drew.set (Y k) (Z k)).mono ?_; rintro e w6 ⟨U6, M6, v6, q6, r1, rfl, t6⟩; have s6 := t6.swap; obtain ⟨x6, y6, z6⟩ := H.at s6.b hlt))
              have hln := s6.len
              have hne := two_zero _ _ s6.c
              go_wp2_with (first | (go_at_call_of 38 (Value.pointer (some ⟨ab, 0, none⟩)); refine (arIntCells_calls s6.a).mono ?_; rintro e w7 ⟨rfl, rfl⟩) | (go_at_call_of 38 (Value.pointer (some ⟨bb, 0, none⟩)); refine (arIntCells_calls s6.a2).mono ?_; rintro e w7 ⟨rfl, rfl⟩) | (go_at_call_of 37 (Value.pointer (some ⟨ab, 0, none⟩)); refine (arIntLen_calls s6.a).mono ?_; rintro e w7 ⟨rfl, rfl⟩) | (go_at_call_of 37 (Value.pointer (some ⟨bb, 0, none⟩)); refine (arIntLen_calls s6.a2).mono ?_; rintro e w7 ⟨rfl, rfl⟩) | (go_at_call 19; refine (used_calls s6.m).mono ?_; rintro e w7 ⟨rfl, rfl⟩) | (go_at_call 17; refine (refHeld_calls _ _).mono ?_; rintro e w7 ⟨rfl, rfl⟩))
              go_roundw
              case rel => exact ⟨k + 1, _, _, _, _, _, _, by omega, by go_num, s6⟩
              case measure => simp [intOf]; omega
            · have h3' : (X k == 3) = false := by simp [h3]
              clear h3
              by_cases h4 : X k = 4
              · have h4' : (X k == 4) = true := by simp [h4]
                clear h4
                go_wp2_with fail
                refine (s5.swap.cut (Y k)).mono ?_
                rintro e w6 ⟨U6, M6, v6, q6, r1, rfl, t6⟩
                have s6 := t6.swap
                have hln := s6.len
                have hne := two_zero _ _ s6.c
                go_wp2_with (first | (go_at_call_of 38 (Value.pointer (some ⟨ab, 0, none⟩)); refine (arIntCells_calls s6.a).mono ?_; rintro e w7 ⟨rfl, rfl⟩) | (go_at_call_of 38 (Value.pointer (some ⟨bb, 0, none⟩)); refine (arIntCells_calls s6.a2).mono ?_; rintro e w7 ⟨rfl, rfl⟩) | (go_at_call_of 37 (Value.pointer (some ⟨ab, 0, none⟩)); refine (arIntLen_calls s6.a).mono ?_; rintro e w7 ⟨rfl, rfl⟩) | (go_at_call_of 37 (Value.pointer (some ⟨bb, 0, none⟩)); refine (arIntLen_calls s6.a2).mono ?_; rintro e w7 ⟨rfl, rfl⟩) | (go_at_call 19; refine (used_calls s6.m).mono ?_; rintro e w7 ⟨rfl, rfl⟩) | (go_at_call 17; refine (refHeld_calls _ _).mono ?_; rintro e w7 ⟨rfl, rfl⟩))
                go_roundw
                case rel => exact ⟨k + 1, _, _, _, _, _, _, by omega, by go_num, s6⟩
                case measure => simp [intOf]; omega
              · have h4' : (X k == 4) = false := by simp [h4]
                clear h4
                have s6 := s5
                have hln := s6.len
                have hne := two_zero _ _ s6.c
                go_wp2_with (first | (go_at_call_of 38 (Value.pointer (some ⟨ab, 0, none⟩)); refine (arIntCells_calls s6.a).mono ?_; rintro e w7 ⟨rfl, rfl⟩) | (go_at_call_of 38 (Value.pointer (some ⟨bb, 0, none⟩)); refine (arIntCells_calls s6.a2).mono ?_; rintro e w7 ⟨rfl, rfl⟩) | (go_at_call_of 37 (Value.pointer (some ⟨ab, 0, none⟩)); refine (arIntLen_calls s6.a).mono ?_; rintro e w7 ⟨rfl, rfl⟩) | (go_at_call_of 37 (Value.pointer (some ⟨bb, 0, none⟩)); refine (arIntLen_calls s6.a2).mono ?_; rintro e w7 ⟨rfl, rfl⟩) | (go_at_call 19; refine (used_calls s6.m).mono ?_; rintro e w7 ⟨rfl, rfl⟩) | (go_at_call 17; refine (refHeld_calls _ _).mono ?_; rintro e w7 ⟨rfl, rfl⟩))
                go_roundw
                case rel => exact ⟨k + 1, _, _, _, _, _, _, by omega, by go_num, s6⟩
                case measure => simp [intOf]; omega
        · obtain rfl := HW.addr (by omega)
          have hbw : b2 < w.heap.size := World.block_lt_of_cell? _ _ (HW.cell k hw)
          have u0 : wr.cell? ⟨b2, o2 + k, none⟩ = some (.bool false) := by rw [← hW]; exact (s5.b.cell (p := ⟨b2, o2 + k, none⟩) hbw).trans (HW.cell k hw)
          clear hW
          by_cases h1 : X k = 1
          · have h1' : (X k == 1) = true := by simp [h1]
            clear h1
            go_wp2_with fail
            go_region_held3 (fun w' => w'.cell? ⟨b, o + k * 3 + 2, none⟩ = some (.int .i64 (Z k)) ∧ w'.cell? ⟨b, o + k * 3 + 1, none⟩ = some (.int .i64 (Y k))) (first | exact ⟨z0, y0⟩ | exact ⟨z6, y6⟩)
              (first | (go_at_call 36; refine (s5.drew.put (Z k) (Y k)).mono ?_; rintro e w6 ⟨U6, M6, v6, q6, r1, r2, rfl, t6⟩; have s6 := t6; obtain ⟨x6, y6, z6⟩ := H.at s6.b hlt))
            have hln := s6.len
            have hne := two_zero _ _ s6.c
            go_wp2_with (first | (go_at_call_of 38 (Value.pointer (some ⟨ab, 0, none⟩)); refine (arIntCells_calls s6.a).mono ?_; rintro e w7 ⟨rfl, rfl⟩) | (go_at_call_of 38 (Value.pointer (some ⟨bb, 0, none⟩)); refine (arIntCells_calls s6.a2).mono ?_; rintro e w7 ⟨rfl, rfl⟩) | (go_at_call_of 37 (Value.pointer (some ⟨ab, 0, none⟩)); refine (arIntLen_calls s6.a).mono ?_; rintro e w7 ⟨rfl, rfl⟩) | (go_at_call_of 37 (Value.pointer (some ⟨bb, 0, none⟩)); refine (arIntLen_calls s6.a2).mono ?_; rintro e w7 ⟨rfl, rfl⟩) | (go_at_call 19; refine (used_calls s6.m).mono ?_; rintro e w7 ⟨rfl, rfl⟩) | (go_at_call 17; refine (refHeld_calls _ _).mono ?_; rintro e w7 ⟨rfl, rfl⟩))
            go_roundw
            case rel => exact ⟨k + 1, _, _, _, _, _, _, by omega, by go_num, s6⟩
            case measure => simp [intOf]; omega
          · have h1' : (X k == 1) = false := by simp [h1]
            clear h1
            by_cases h3 : X k = 3
            · have h3' : (X k == 3) = true := by simp [h3]
              clear h3
              go_wp2_with fail
              go_region_held3 (fun w' => w'.cell? ⟨b, o + k * 3 + 1, none⟩ = some (.int .i64 (Y k)) ∧ w'.cell? ⟨b, o + k * 3 + 2, none⟩ = some (.int .i64 (Z k))) (first | exact ⟨y0, z0⟩ | exact ⟨y6, z6⟩)
                (first | (go_at_call 40; refine (s5.drew.set (Y k) (Z k)).mono ?_; rintro e w6 ⟨U6, M6, v6, q6, r1, rfl, t6⟩; have s6 := t6; obtain ⟨x6, y6, z6⟩ := H.at s6.b hlt))
              have hln := s6.len
              have hne := two_zero _ _ s6.c
              go_wp2_with (first | (go_at_call_of 38 (Value.pointer (some ⟨ab, 0, none⟩)); refine (arIntCells_calls s6.a).mono ?_; rintro e w7 ⟨rfl, rfl⟩) | (go_at_call_of 38 (Value.pointer (some ⟨bb, 0, none⟩)); refine (arIntCells_calls s6.a2).mono ?_; rintro e w7 ⟨rfl, rfl⟩) | (go_at_call_of 37 (Value.pointer (some ⟨ab, 0, none⟩)); refine (arIntLen_calls s6.a).mono ?_; rintro e w7 ⟨rfl, rfl⟩) | (go_at_call_of 37 (Value.pointer (some ⟨bb, 0, none⟩)); refine (arIntLen_calls s6.a2).mono ?_; rintro e w7 ⟨rfl, rfl⟩) | (go_at_call 19; refine (used_calls s6.m).mono ?_; rintro e w7 ⟨rfl, rfl⟩) | (go_at_call 17; refine (refHeld_calls _ _).mono ?_; rintro e w7 ⟨rfl, rfl⟩))
              go_roundw
              case rel => exact ⟨k + 1, _, _, _, _, _, _, by omega, by go_num, s6⟩
              case measure => simp [intOf]; omega
            · have h3' : (X k == 3) = false := by simp [h3]
              clear h3
              by_cases h4 : X k = 4
              · have h4' : (X k == 4) = true := by simp [h4]
                clear h4
                go_wp2_with fail
                refine (s5.cut (Y k)).mono ?_
                rintro e w6 ⟨U6, M6, v6, q6, r1, rfl, t6⟩
                have s6 := t6
                have hln := s6.len
                have hne := two_zero _ _ s6.c
                go_wp2_with (first | (go_at_call_of 38 (Value.pointer (some ⟨ab, 0, none⟩)); refine (arIntCells_calls s6.a).mono ?_; rintro e w7 ⟨rfl, rfl⟩) | (go_at_call_of 38 (Value.pointer (some ⟨bb, 0, none⟩)); refine (arIntCells_calls s6.a2).mono ?_; rintro e w7 ⟨rfl, rfl⟩) | (go_at_call_of 37 (Value.pointer (some ⟨ab, 0, none⟩)); refine (arIntLen_calls s6.a).mono ?_; rintro e w7 ⟨rfl, rfl⟩) | (go_at_call_of 37 (Value.pointer (some ⟨bb, 0, none⟩)); refine (arIntLen_calls s6.a2).mono ?_; rintro e w7 ⟨rfl, rfl⟩) | (go_at_call 19; refine (used_calls s6.m).mono ?_; rintro e w7 ⟨rfl, rfl⟩) | (go_at_call 17; refine (refHeld_calls _ _).mono ?_; rintro e w7 ⟨rfl, rfl⟩))
                go_roundw
                case rel => exact ⟨k + 1, _, _, _, _, _, _, by omega, by go_num, s6⟩
                case measure => simp [intOf]; omega
              · have h4' : (X k == 4) = false := by simp [h4]
                clear h4
                have s6 := s5
                have hln := s6.len
                have hne := two_zero _ _ s6.c
                go_wp2_with (first | (go_at_call_of 38 (Value.pointer (some ⟨ab, 0, none⟩)); refine (arIntCells_calls s6.a).mono ?_; rintro e w7 ⟨rfl, rfl⟩) | (go_at_call_of 38 (Value.pointer (some ⟨bb, 0, none⟩)); refine (arIntCells_calls s6.a2).mono ?_; rintro e w7 ⟨rfl, rfl⟩) | (go_at_call_of 37 (Value.pointer (some ⟨ab, 0, none⟩)); refine (arIntLen_calls s6.a).mono ?_; rintro e w7 ⟨rfl, rfl⟩) | (go_at_call_of 37 (Value.pointer (some ⟨bb, 0, none⟩)); refine (arIntLen_calls s6.a2).mono ?_; rintro e w7 ⟨rfl, rfl⟩) | (go_at_call 19; refine (used_calls s6.m).mono ?_; rintro e w7 ⟨rfl, rfl⟩) | (go_at_call 17; refine (refHeld_calls _ _).mono ?_; rintro e w7 ⟨rfl, rfl⟩))
                go_roundw
                case rel => exact ⟨k + 1, _, _, _, _, _, _, by omega, by go_num, s6⟩
                case measure => simp [intOf]; omega
        · skip
          by_cases h1 : X k = 1
          · have h1' : (X k == 1) = true := by simp [h1]
            clear h1
            go_wp2_with fail
            go_region_held3 (fun w' => w'.cell? ⟨b, o + k * 3 + 2, none⟩ = some (.int .i64 (Z k)) ∧ w'.cell? ⟨b, o + k * 3 + 1, none⟩ = some (.int .i64 (Y k))) (first | exact ⟨z0, y0⟩ | exact ⟨z6, y6⟩)
              (first | (go_at_call 36; refine (s5.drew.put (Z k) (Y k)).mono ?_; rintro e w6 ⟨U6, M6, v6, q6, r1, r2, rfl, t6⟩; have s6 := t6; obtain ⟨x6, y6, z6⟩ := H.at s6.b hlt))
            have hln := s6.len
            have hne := two_zero _ _ s6.c
            go_wp2_with (first | (go_at_call_of 38 (Value.pointer (some ⟨ab, 0, none⟩)); refine (arIntCells_calls s6.a).mono ?_; rintro e w7 ⟨rfl, rfl⟩) | (go_at_call_of 38 (Value.pointer (some ⟨bb, 0, none⟩)); refine (arIntCells_calls s6.a2).mono ?_; rintro e w7 ⟨rfl, rfl⟩) | (go_at_call_of 37 (Value.pointer (some ⟨ab, 0, none⟩)); refine (arIntLen_calls s6.a).mono ?_; rintro e w7 ⟨rfl, rfl⟩) | (go_at_call_of 37 (Value.pointer (some ⟨bb, 0, none⟩)); refine (arIntLen_calls s6.a2).mono ?_; rintro e w7 ⟨rfl, rfl⟩) | (go_at_call 19; refine (used_calls s6.m).mono ?_; rintro e w7 ⟨rfl, rfl⟩) | (go_at_call 17; refine (refHeld_calls _ _).mono ?_; rintro e w7 ⟨rfl, rfl⟩))
            go_roundw
            case rel => exact ⟨k + 1, _, _, _, _, _, _, by omega, by go_num, s6⟩
            case measure => simp [intOf]; omega
          · have h1' : (X k == 1) = false := by simp [h1]
            clear h1
            by_cases h3 : X k = 3
            · have h3' : (X k == 3) = true := by simp [h3]
              clear h3
              go_wp2_with fail
              go_region_held3 (fun w' => w'.cell? ⟨b, o + k * 3 + 1, none⟩ = some (.int .i64 (Y k)) ∧ w'.cell? ⟨b, o + k * 3 + 2, none⟩ = some (.int .i64 (Z k))) (first | exact ⟨y0, z0⟩ | exact ⟨y6, z6⟩)
                (first | (go_at_call 40; refine (s5.drew.set (Y k) (Z k)).mono ?_; rintro e w6 ⟨U6, M6, v6, q6, r1, rfl, t6⟩; have s6 := t6; obtain ⟨x6, y6, z6⟩ := H.at s6.b hlt))
              have hln := s6.len
              have hne := two_zero _ _ s6.c
              go_wp2_with (first | (go_at_call_of 38 (Value.pointer (some ⟨ab, 0, none⟩)); refine (arIntCells_calls s6.a).mono ?_; rintro e w7 ⟨rfl, rfl⟩) | (go_at_call_of 38 (Value.pointer (some ⟨bb, 0, none⟩)); refine (arIntCells_calls s6.a2).mono ?_; rintro e w7 ⟨rfl, rfl⟩) | (go_at_call_of 37 (Value.pointer (some ⟨ab, 0, none⟩)); refine (arIntLen_calls s6.a).mono ?_; rintro e w7 ⟨rfl, rfl⟩) | (go_at_call_of 37 (Value.pointer (some ⟨bb, 0, none⟩)); refine (arIntLen_calls s6.a2).mono ?_; rintro e w7 ⟨rfl, rfl⟩) | (go_at_call 19; refine (used_calls s6.m).mono ?_; rintro e w7 ⟨rfl, rfl⟩) | (go_at_call 17; refine (refHeld_calls _ _).mono ?_; rintro e w7 ⟨rfl, rfl⟩))
              go_roundw
              case rel => exact ⟨k + 1, _, _, _, _, _, _, by omega, by go_num, s6⟩
              case measure => simp [intOf]; omega
            · have h3' : (X k == 3) = false := by simp [h3]
              clear h3
              by_cases h4 : X k = 4
              · have h4' : (X k == 4) = true := by simp [h4]
                clear h4
                go_wp2_with fail
                refine (s5.cut (Y k)).mono ?_
                rintro e w6 ⟨U6, M6, v6, q6, r1, rfl, t6⟩
                have s6 := t6
                have hln := s6.len
                have hne := two_zero _ _ s6.c
                go_wp2_with (first | (go_at_call_of 38 (Value.pointer (some ⟨ab, 0, none⟩)); refine (arIntCells_calls s6.a).mono ?_; rintro e w7 ⟨rfl, rfl⟩) | (go_at_call_of 38 (Value.pointer (some ⟨bb, 0, none⟩)); refine (arIntCells_calls s6.a2).mono ?_; rintro e w7 ⟨rfl, rfl⟩) | (go_at_call_of 37 (Value.pointer (some ⟨ab, 0, none⟩)); refine (arIntLen_calls s6.a).mono ?_; rintro e w7 ⟨rfl, rfl⟩) | (go_at_call_of 37 (Value.pointer (some ⟨bb, 0, none⟩)); refine (arIntLen_calls s6.a2).mono ?_; rintro e w7 ⟨rfl, rfl⟩) | (go_at_call 19; refine (used_calls s6.m).mono ?_; rintro e w7 ⟨rfl, rfl⟩) | (go_at_call 17; refine (refHeld_calls _ _).mono ?_; rintro e w7 ⟨rfl, rfl⟩))
                go_roundw
                case rel => exact ⟨k + 1, _, _, _, _, _, _, by omega, by go_num, s6⟩
                case measure => simp [intOf]; omega
              · have h4' : (X k == 4) = false := by simp [h4]
                clear h4
                have s6 := s5
                have hln := s6.len
                have hne := two_zero _ _ s6.c
                go_wp2_with (first | (go_at_call_of 38 (Value.pointer (some ⟨ab, 0, none⟩)); refine (arIntCells_calls s6.a).mono ?_; rintro e w7 ⟨rfl, rfl⟩) | (go_at_call_of 38 (Value.pointer (some ⟨bb, 0, none⟩)); refine (arIntCells_calls s6.a2).mono ?_; rintro e w7 ⟨rfl, rfl⟩) | (go_at_call_of 37 (Value.pointer (some ⟨ab, 0, none⟩)); refine (arIntLen_calls s6.a).mono ?_; rintro e w7 ⟨rfl, rfl⟩) | (go_at_call_of 37 (Value.pointer (some ⟨bb, 0, none⟩)); refine (arIntLen_calls s6.a2).mono ?_; rintro e w7 ⟨rfl, rfl⟩) | (go_at_call 19; refine (used_calls s6.m).mono ?_; rintro e w7 ⟨rfl, rfl⟩) | (go_at_call 17; refine (refHeld_calls _ _).mono ?_; rintro e w7 ⟨rfl, rfl⟩))
                go_roundw
                case rel => exact ⟨k + 1, _, _, _, _, _, _, by omega, by go_num, s6⟩
                case measure => simp [intOf]; omega
      · go_wp2_with fail
        go_ret
        exact ⟨rfl, s5.b⟩
  · have hl' : 100 < (l : Int) := by omega
    go_wp2_with fail
    go_ret
    exact ⟨rfl, s4.b⟩

end Go.Proofs.Ytgbjjceicpmopaa
