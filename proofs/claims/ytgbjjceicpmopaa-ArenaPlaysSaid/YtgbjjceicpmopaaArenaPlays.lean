/-
  ArenaPlays: each answer, how many things there are, what they cost, and what the meter has left, is as the document says: the walk of the law.
-/
import Derived.Test.YtgbjjceicpmopaaArenaDone
namespace Go.Proofs.Ytgbjjceicpmopaa
open Go.RowKit

theorem refCells_quiet {w : World} {B b rm : Nat} {vl vc : Value} {xs cs : List Int} (h : RefArAt w B b rm vl vc xs cs) (hs : cs.sum ≤ 1099511627776) :
    Calls Try.prog 43 #[.pointer (some ⟨b, 0, none⟩)] w fun e w' => e = .returned (.int .i64 cs.sum) ∧ w' = w := (refCells_calls h hs).mono fun _ _ ⟨he, hw⟩ => ⟨he, hw.symm⟩

theorem RefArAt.drewN {w : World} {B b rm : Nat} {vl vc : Value} {xs cs : List Int} (h : RefArAt w B b rm vl vc xs cs) (n : Nat) : RefArAt (w.drewN n) B b rm vl vc xs cs :=
  h.chg (Chg.drewN (Chg.refl (fun _ => False) w) n) (fun h => h) (fun _ _ h => h) (fun _ _ h => h)

set_option maxRecDepth 100000 in
set_option maxHeartbeats 8000000 in
theorem aplays_calls (w : World) (lim : Int) (_ : -9223372036854775808 ≤ lim ∧ lim ≤ 9223372036854775807) {a : Option Addr} {l cap b o : Nat} {X Y Z : Nat → Int} (H : TriplesAt w a l b o X Y Z) (_ : l ≤ cap) (_ : cap ≤ maxLen) (_ : a = none → l = 0 ∧ cap = 0) :
    Calls Try.prog 12 #[.int .i64 lim, .slice a l cap] w (Says w true) := by
  go_enter Try.func12, Try.ntmps12
  go_wp2_with fail
  refine (awake2_calls _).mono ?_
  rintro e w1 ⟨rfl, b1⟩
  go_wp2_with fail
  refine (newm_calls _ _).mono ?_
  rintro e w2 ⟨rfl, m2, c2, _⟩
  go_wp2_with fail
  refine (arIntNew_calls _ _).mono ?_
  rintro e w3 ⟨rfl, a3, c3, _⟩
  have s3 := ArS.new b1 m2 (MOk.new lim) c2 rfl rfl a3 c3
  generalize w1.heap.size = mb at s3 ⊢
  generalize w2.heap.size = ab at s3 ⊢
  clear a3 c3 m2 c2 b1
  go_wp2_with fail
  refine (refHeld_calls _ _).mono ?_
  rintro e w4 ⟨rfl, rfl⟩
  have p5 : ArP w ((w3.alloc (.cells #[.int .i64 (held lim), .int .i64 0, .int .i64 0] 29)).alloc (.cells #[.pointer (some ⟨w3.heap.size, 0, none⟩), .slice none 0 0, .slice none 0 0] 62)) ab mb (w3.heap.size + 1) w3.heap.size (held lim) 0 [] [] := by
    have hs := s3.b.size
    refine ⟨⟨0, _, s3.same (((Chg.refl _ _).alloc _).alloc _)⟩, ⟨.slice none 0 0, .slice none 0 0, ?_, World.ownsRow_nil _ _ _ _, World.ownsRow_nil _ _ _ _, (fun k h => by simp [Value.ownBlock] at h), (fun c hc => by simp at hc), rfl⟩, ⟨0, (RefAt.mk w3 (held lim) 0 0).chg (S := fun _ => False) ((Chg.refl _ _).alloc _) (fun h => h), MOk.new lim⟩, rfl, rfl, by omega, hs⟩
    show ((w3.heap.push _).push _)[w3.heap.size + 1]? = _
    rw [Array.getElem?_push]
    simp
  by_cases hl : l ≤ 100
  · have hl' : (l : Int) ≤ 100 := by omega
    go_wp2_with fail
    generalize ((w3.alloc (.cells #[.int .i64 (held lim), .int .i64 0, .int .i64 0] 29)).alloc (.cells #[.pointer (some ⟨w3.heap.size, 0, none⟩), .slice none 0 0, .slice none 0 0] 62)) = w5 at p5 ⊢
    generalize w3.heap.size + 1 = rb at p5 ⊢
    generalize w3.heap.size = rm at p5 ⊢
    go_outline
    go_loopw [9] (fun i wr => ∃ (k : Nat) (U : Int) (xs cs : List Int), k ≤ l ∧ i = .int .i64 k ∧ ArP w wr ab mb rb rm (held lim) U xs cs) (fun i _ => l - (intOf i).toNat)
    case atStart => exact ⟨0, 0, [], [], by omega, rfl, p5⟩
    case round =>
      obtain ⟨k, U, xs, cs, hk, rfl, p6⟩ := hrel
      clear p5 s3
      by_cases hlt : k < l
      · obtain rfl := H.addr (by omega)
        obtain ⟨x0, y0, z0⟩ := H.at p6.below hlt
        go_wp2_with fail
        refine (done2_calls p6 (X k) (Y k) (Z k)).mono ?_
        rintro e w7 ⟨U7, xs7, cs7, rfl, p7⟩
        obtain ⟨M, v, s7⟩ := p7.s
        have hl7 := hid (both_length p7.same)
        have hc7 := hid (cost_both p7.same)
        go_wp2_with fail
        refine (arIntLen_calls s7.a).mono ?_
        rintro e w8 ⟨rfl, rfl⟩
        rw [hl7.out]
        go_wp2_with fail
        refine (arIntCells_calls s7.a).mono ?_
        rintro e w8 ⟨rfl, rfl⟩
        rw [hc7.out]
        go_wp2_with fail
        refine (left_reads s7.m s7.k).mono ?_
        rintro e w8 ⟨rfl, _, c8⟩
        have p8 := p7.keep c8
        have hlen := p8.len
        obtain ⟨vl, vc, r8⟩ := p8.r
        obtain ⟨M8, m8, k8⟩ := p8.k
        obtain ⟨al, capl, rfl, hg⟩ := r8.form
        obtain ⟨u0, u1, u2, u3, u4⟩ := r8.cells
        obtain ⟨v0, v1, v2, v3, v4, v5⟩ := m8.cells
        obtain ⟨g1, g2, g3, g4⟩ := hlen
        have hsm : cs7.sum ≤ 1099511627776 := by have := p8.sum; omega
        have R8 := hid r8
        clear s7 c8 r8 p7 hg v2 v3 v4 v5 u3 u4 m8 k8
        go_wp2_with fail
        go_quiet ((go_at_call 43; exact Calls.quiet_of_same (refCells_quiet (R8.out.drewN _) hsm)))
        go_wp2
        go_roundw
        case rel => exact ⟨k + 1, _, _, _, by omega, by go_num, p8.drewN _⟩
        case measure => simp [intOf]; omega
      · go_wp2_with fail
        clear hlt
        go_loopw [14] (fun i wr => ∃ (j : Nat), j ≤ xs.length + 2 ∧ i = .int .i64 ((j : Int) - 1) ∧ ArP w wr ab mb rb rm (held lim) U xs cs) (fun i _ => xs.length + 2 - (intOf i + 1).toNat)
        case atStart => exact ⟨0, by omega, rfl, p6⟩
        case round =>
          obtain ⟨j, hj, rfl, p9⟩ := hrel
          clear p6
          obtain ⟨vl, vc, r9⟩ := p9.r
          obtain ⟨al, capl, rfl, hg⟩ := r9.form
          obtain ⟨u0, u1, u2, u3, u4⟩ := r9.cells
          have hlen := p9.len
          by_cases hlt : (j : Int) - 1 ≤ xs.length
          · go_wp2_with fail
            refine (done2_at p9 p9.below.size _ _).mono ?_
            rintro e w10 ⟨rfl, p10⟩
            go_wp2_with fail
            go_roundw
            case rel => exact ⟨j + 1, by omega, by go_num, p10⟩
            case measure => simp [intOf]; omega
          · have hlt' : (xs.length : Int) < (j : Int) - 1 := by omega
            go_wp2_with fail
            go_ret
            exact ⟨rfl, p9.below⟩
  · have hl' : 100 < (l : Int) := by omega
    go_wp2_with fail
    go_ret
    exact ⟨rfl, p5.below⟩

end Go.Proofs.Ytgbjjceicpmopaa
