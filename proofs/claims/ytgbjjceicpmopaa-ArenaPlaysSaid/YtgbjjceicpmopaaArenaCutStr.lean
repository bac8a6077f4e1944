/-
  What Cut of package arena does to a world, for things of type string.
-/
import Derived.Test.YtgbjjceicpmopaaArenaCutInt
import Derived.Test.YtgbjjceicpmopaaArenaPutStr
import Derived.Deep.DeepCutAuto
import Derived.Deep.LoopGhost
namespace Go.Proofs.Ytgbjjceicpmopaa
open Go.RowKit


/-- What Cut leaves. -/
def ArStrCut (w : World) (B b mb : Nat) (v : Value) (l : List (Value × Int)) (L U M : Int) (n : Int) (e : Ending) (w' : World) : Prop :=
  ∃ v', e = .returned (.int .i64 (cost (l.drop (cutK l.length n)))) ∧ ArStrAt w' B b mb v' (l.take (cutK l.length n)) ∧ MeterAt w' mb L (U - cost (l.drop (cutK l.length n))) M ∧
    Chg (fun k => k = b ∨ k = mb ∨ v.ownBlock = some k) w w' ∧ Moved w v v'

set_option maxRecDepth 100000 in
set_option maxHeartbeats 1000000 in
theorem arStrCut_calls {w : World} {B b mb : Nat} {v : Value} {l : List (Value × Int)} (h : ArStrAt w B b mb v l) {L U M : Int} (hm : MeterAt w mb L U M) (h0 : MOk L U M) (hc : cost l ≤ U) (hB : B ≤ w.heap.size) (n : Int) :
    Calls Try.prog 33 #[.pointer (some ⟨b, 0, none⟩), .int .i64 n] w (ArStrCut w B b mb v l L U M n) := by
  obtain ⟨c0, c1, c2, f1, f2⟩ := h.cells
  have hne := h.neMeter hm
  have H := hid h
  have HM := hid hm
  have h0' := h0
  obtain ⟨g0, g1, g2, g3⟩ := h0'
  have hlen := h.len_le
  have hrow := h.ne (k := mb) hm (by decide)
  have hrowb := h.ne (k := b) h.blk (by decide)
  unfold ArStrCut
  have hKdef : (n < 0 ∧ cutK l.length n = 0) ∨ ((l.length : Int) < n ∧ cutK l.length n = l.length) ∨ (0 ≤ n ∧ n ≤ l.length ∧ (cutK l.length n : Int) = n) := by
    unfold cutK; (repeat' split) <;> omega
  have hKle := cutK_le l.length n
  generalize cutK l.length n = K at *
  have hcost := cost_take_drop l K
  have htp := (h.pos.take K).nonneg
  have hdp := (h.pos.drop K).nonneg
  rcases h.val with ⟨rfl, rfl⟩ | ⟨g, cap, rfl, hcap, hmax⟩
  · obtain rfl : K = 0 := by simp at hKle; exact hKle
    clear h hm hcost htp hdp hKle hlen hrow hrowb
    have t := give_calls (w := (w.setCell ⟨b, 1, none⟩ (Value.slice none 0 0)).setCell ⟨b, 2, none⟩ (.int .i64 0)) (b := mb) (L := L) (U := U) (M := M)
            (by unfold MeterAt; rw [Below.heap_setCell _ _ _ _ (fun e => hne e.symm), Below.heap_setCell _ _ _ _ (fun e => hne e.symm)]; exact HM.out) h0 0
    rw [show giveE U 0 = 0 from if_neg (by omega), show giveU U 0 = U - 0 from if_neg (by omega)] at t
    have T := hid t
    clear t
    have hKd : n ≤ 0 ∨ 0 < n := by omega
    clear hKdef
    rcases hKd with hn | hn
    all_goals
      go_enter Try.func33, Try.ntmps33
      go_wp2_with fail
      refine wp_loop_rounds 1 ?_
      rw [rounds_succ]
      go_wp2_with (refine wpList_clear_none _ rfl _ 71 75 rfl Try.underlying71 _ _ rfl ?_)
      refine T.out.mono ?_
      rintro e w4 ⟨rfl, m4, c4⟩
      go_wp2_with fail
      go_ret
      refine ⟨.slice none 0 0, by simp, ⟨?_, ?_, by simpa using Costs.nil, fun p hp => by simp at hp⟩, by simpa using m4, (((Chg.refl _ _).setCell (.inl (.inl rfl)) _).setCell (.inl (.inl rfl)) _).trans (c4.mono (fun _ h => .inr (.inl h))), .inl rfl⟩
      · have hb4 := c4.block b (by simp; exact H.out.lt) (fun h => hne h)
        rw [hb4, heap_setCell_same (heap_setCell_same H.out.blk)]
        simp
      · exact World.ownsRow_nil _ _ _ _
  clear h hm
  go_enter Try.func33, Try.ntmps33
  go_upto_region 1 with fail
  go_cut [1] (fun s wx => s = .int .i64 (K : Int) ∧ wx = w)
  case first =>
    rcases hKdef with ⟨a1, rfl⟩ | ⟨a1, rfl⟩ | ⟨a1, a2, a3⟩
    · go_wp2_with fail
      all_goals go_meet
      all_goals exact ⟨int_eq (by omega), rfl⟩
    · go_wp2_with fail
      all_goals go_meet
      all_goals exact ⟨int_eq (by omega), rfl⟩
    · have A3 := hid a3
      clear a3
      go_wp2_with fail
      all_goals go_meet
      all_goals exact ⟨int_eq (by have := A3.out; omega), rfl⟩
  case rest =>
    obtain ⟨rfl, rfl⟩ := hcut
    clear hKdef
    by_cases hlt : K < l.length
    · have hcK : K < cap := by omega
      have hne2 : cap ≠ K := by omega
      go_wp2_with fail
      go_loopw [5, 23] (fun s i wr => ∃ j : Nat, j ≤ l.length - K ∧ i = .int .i64 j ∧ s = .int .i64 (cost ((l.drop K).take j)) ∧ Chg (fun _ => False) wc wr) (fun _ i _ => l.length - K - (intOf i).toNat)
      case atStart => exact ⟨0, by omega, rfl, rfl, Chg.refl _ _⟩
      case round =>
        obtain ⟨j, hj, rfl, rfl, kr⟩ := hrel
        have HR := hid (H.out.chg kr (fun h => h) (fun _ _ h => h))
        have hjb := cost_take_le (H.out.pos.drop K) j
        by_cases hjl : j < l.length - K
        · have hKj : K + j < l.length := by omega
          obtain ⟨x0, x1, x2⟩ := HR.out.at hKj
          rw [show (K + j) * 2 = K * 2 + j * 2 by omega] at x0 x1
          have hstep := cost_take_succ (l.drop K) j (by simp; omega)
          rw [List.getElem_drop] at hstep
          have hjb2 := cost_take_le (H.out.pos.drop K) (j + 1)
          have hpos := H.out.pos l[K + j] (List.getElem_mem _)
          obtain ⟨yx, hyx⟩ := H.out.kind l[K + j] (List.getElem_mem _)
          generalize l[K + j] = y at *
          obtain ⟨y1, y2⟩ := y
          simp only at hyx
          subst hyx
          have y0 : 0 ≤ cost (List.take j (List.drop K l)) + y2 := by omega
          have y3 : cost (List.take j (List.drop K l)) + y2 ≤ 1099511627776 := by omega
          have hs := hid hstep
          clear hstep hjb2 x2
          go_wp2_with fail
          have hjn : ((j + 1 : Nat) : Int) = (j : Int) + 1 := by omega
          go_roundw
          case rel => exact ⟨j + 1, by omega, by go_num, int_eq hs.out.symm, (((kr.alloc _)))⟩
          case measure => simp [intOf]; omega
        · have hjK : j = l.length - K := by omega
          subst hjK
          rw [List.take_of_length_le (by simp)]
          obtain ⟨d0, d1, d2, f1', f2'⟩ := HR.out.cells
          obtain ⟨i0, hi, hz0, hz1, hz2⟩ := info_parts infoStr
          have hown := HR.out.own
          have MR := hid ((HM.out).chg kr (fun h => h))
          have hblt := HR.out.lt
          have hmlt := MR.out.lt
          go_wp2_with (refine wpList_clear_tail _ rfl _ 71 rfl B 75 i0 _ 2 Try.underlying71 hi hz0 rfl (by simp [Value.cells, Value.oneCell']) g l.length cap K (l.length - K) _ (flat l) hown (by omega) (by omega) rfl ?_)
          intro w3 hown3 hgrow
          -- behind the clear: w3, its row hown3, its frame hgrow
          have A3 := (hgrow.block b hblt (fun e => hrowb (e.symm))).trans HR.out.blk
          have M3 := (hgrow.block mb hmlt (fun e => hrow (e.symm))).trans MR.out
          have q0 : w3.cell? ⟨b, 0, none⟩ = some (.pointer (some ⟨mb, 0, none⟩)) := by simp [World.cell?, A3]
          have q1 : w3.cell? ⟨b, 1, none⟩ = some (Value.slice (some ⟨g, 0, none⟩) l.length cap) := by simp [World.cell?, A3]
          have q2 : w3.cell? ⟨b, 2, none⟩ = some (.int .i64 (cost l)) := by simp [World.cell?, A3]
          have q3 : w3.frozen? ⟨b, 1, none⟩ = false := by simp [World.frozen?, A3]
          have q4 : w3.frozen? ⟨b, 2, none⟩ = false := by simp [World.frozen?, A3]
          have K3 : Chg (fun k => k = b ∨ k = mb ∨ (Value.slice (some ⟨g, 0, none⟩) l.length cap).ownBlock = some k) wc w3 := (kr.of_none).trans ((grownBy_chg hgrow).mono (fun _ h => .inr (.inr h.symm)))
          have A3' := hid A3
          have hown3' := hid hown3
          have t := give_calls (w := (w3.setCell ⟨b, 1, none⟩ (Value.slice (some ⟨g, 0, none⟩) K cap)).setCell ⟨b, 2, none⟩ (.int .i64 (cost l - cost (List.drop K l)))) (b := mb) (L := L) (U := U) (M := M)
            (by unfold MeterAt; rw [Below.heap_setCell _ _ _ _ (fun e => hne e.symm), Below.heap_setCell _ _ _ _ (fun e => hne e.symm)]; exact M3) h0 (cost (List.drop K l))
          rw [show giveE U (cost (List.drop K l)) = 0 from if_neg (by omega), show giveU U (cost (List.drop K l)) = U - cost (List.drop K l) from if_neg (by omega)] at t
          have T := hid t
          clear t hown3 A3 M3 hgrow hown d0 d1 d2 f1' f2' c0 c1 c2 f1 f2 hi hz0 hz1 hz2
          go_wp2_with fail
          refine T.out.mono ?_
          rintro e w4 ⟨rfl, m4, c4⟩
          go_wp2_with fail
          go_ret
          refine ⟨(Value.slice (some ⟨g, 0, none⟩) K cap), rfl, ⟨?_, ?_, H.out.pos.take _, fun p hp => H.out.kind p (List.mem_of_mem_take hp)⟩, m4, ((K3.setCell (.inl (.inl rfl)) _).setCell (.inl (.inl rfl)) _).trans (c4.mono (fun _ h => .inr (.inl h))), .inl rfl⟩
          · have hb4 := c4.block b (by simp; exact lt_of_block A3'.out) (fun h => hne h)
            rw [hb4, heap_setCell_same (heap_setCell_same A3'.out)]
            have : cost (List.take K l) = cost l - cost (List.drop K l) := by omega
            simp [this]
          · have o1 := ownsRow_setCell_other hown3'.out (a := ⟨b, 1, none⟩) (by simp only [Value.ownBlock, ne_eq, Option.some.injEq]; intro e; exact hrowb (by rw [Value.ownBlock, e])) (Value.slice (some ⟨g, 0, none⟩) K cap)
            have o2 := ownsRow_setCell_other o1 (a := ⟨b, 2, none⟩) (by simp only [Value.ownBlock, ne_eq, Option.some.injEq]; intro e; exact hrowb (by rw [Value.ownBlock, e])) (.int .i64 (cost l - cost (List.drop K l)))
            have o3 := ownsRow_chg o2 c4 (by intro k hk e; simp only [Value.ownBlock, Option.some.injEq] at hk; exact hrow (by rw [Value.ownBlock, hk, e]))
            rw [List.length_take, Nat.min_eq_left hKle]
            rw [← flat_take]
            exact o3
    · have hKl : K = l.length := by omega
      subst hKl
      have e1 : cost (List.drop l.length l) = 0 := by simp
      have e2 : List.take l.length l = l := List.take_of_length_le (Nat.le_refl _)
      have E1 := hid e1
      have E2 := hid e2
      clear e1 e2 hcost htp hdp hlt hKle
      have t := give_calls (w := (wc.setCell ⟨b, 1, none⟩ (Value.slice (some ⟨g, 0, none⟩) l.length cap)).setCell ⟨b, 2, none⟩ (.int .i64 (cost l))) (b := mb) (L := L) (U := U) (M := M)
            (by unfold MeterAt; rw [Below.heap_setCell _ _ _ _ (fun e => hne e.symm), Below.heap_setCell _ _ _ _ (fun e => hne e.symm)]; exact HM.out) h0 0
      rw [show giveE U 0 = 0 from if_neg (by omega), show giveU U 0 = U - 0 from if_neg (by omega)] at t
      have T := hid t
      clear t
      by_cases hcl : cap = l.length
      · subst hcl
        go_wp2_with fail
        refine wp_loop_rounds 1 ?_
        rw [rounds_succ]
        go_wp2_with (refine wpList_clear_none _ rfl _ 71 75 rfl Try.underlying71 _ _ rfl ?_)
        refine T.out.mono ?_
        rintro e w4 ⟨rfl, m4, c4⟩
        go_wp2_with fail
        go_ret
        try rw [E1.out]
        try rw [E2.out]
        refine ⟨(Value.slice (some ⟨g, 0, none⟩) l.length l.length), rfl, ⟨?_, ?_, H.out.pos, H.out.kind⟩, m4, (((Chg.refl _ _).setCell (.inl (.inl rfl)) _).setCell (.inl (.inl rfl)) _).trans (c4.mono (fun _ h => .inr (.inl h))), .inl rfl⟩
        · have hb4 := c4.block b (by simp; exact H.out.lt) (fun h => hne h)
          rw [hb4, heap_setCell_same (heap_setCell_same H.out.blk)]
          simp
        · have o1 := ownsRow_setCell_other H.out.own (a := ⟨b, 1, none⟩) (by simp only [Value.ownBlock, ne_eq, Option.some.injEq]; intro e; exact hrowb (by rw [Value.ownBlock, e])) (Value.slice (some ⟨g, 0, none⟩) l.length l.length)
          have o2 := ownsRow_setCell_other o1 (a := ⟨b, 2, none⟩) (by simp only [Value.ownBlock, ne_eq, Option.some.injEq]; intro e; exact hrowb (by rw [Value.ownBlock, e])) (.int .i64 (cost l))
          exact ownsRow_chg o2 c4 (by intro k hk e; simp only [Value.ownBlock, Option.some.injEq] at hk; exact hrow (by rw [Value.ownBlock, hk, e]))
      · have hcl2 : l.length < cap := by omega
        go_wp2_with fail
        refine wp_loop_rounds 1 ?_
        rw [rounds_succ]
        go_wp2_with (refine wpList_clear_none _ rfl _ 71 75 rfl Try.underlying71 _ _ rfl ?_)
        refine T.out.mono ?_
        rintro e w4 ⟨rfl, m4, c4⟩
        go_wp2_with fail
        go_ret
        try rw [E1.out]
        try rw [E2.out]
        refine ⟨(Value.slice (some ⟨g, 0, none⟩) l.length cap), rfl, ⟨?_, ?_, H.out.pos, H.out.kind⟩, m4, (((Chg.refl _ _).setCell (.inl (.inl rfl)) _).setCell (.inl (.inl rfl)) _).trans (c4.mono (fun _ h => .inr (.inl h))), .inl rfl⟩
        · have hb4 := c4.block b (by simp; exact H.out.lt) (fun h => hne h)
          rw [hb4, heap_setCell_same (heap_setCell_same H.out.blk)]
          simp
        · have o1 := ownsRow_setCell_other H.out.own (a := ⟨b, 1, none⟩) (by simp only [Value.ownBlock, ne_eq, Option.some.injEq]; intro e; exact hrowb (by rw [Value.ownBlock, e])) (Value.slice (some ⟨g, 0, none⟩) l.length cap)
          have o2 := ownsRow_setCell_other o1 (a := ⟨b, 2, none⟩) (by simp only [Value.ownBlock, ne_eq, Option.some.injEq]; intro e; exact hrowb (by rw [Value.ownBlock, e])) (.int .i64 (cost l))
          exact ownsRow_chg o2 c4 (by intro k hk e; simp only [Value.ownBlock, Option.some.injEq] at hk; exact hrow (by rw [Value.ownBlock, hk, e]))

end Go.Proofs.Ytgbjjceicpmopaa
