/-
  What Put of package arena does to a world, for things of type string.
-/
import Derived.Test.YtgbjjceicpmopaaArenaPutInt
import Derived.Test.YtgbjjceicpmopaaArenaStr
import Derived.Test.YtgbjjceicpmopaaSlice
namespace Go.Proofs.Ytgbjjceicpmopaa
open Go.RowKit


/-- What Put leaves. -/
def ArStrPut (w : World) (B b mb : Nat) (v : Value) (l : List (Value × Int)) (L U M : Int) (x : Value) (n : Int) (e : Ending) (w' : World) : Prop :=
  ∃ v', e = .returned (.tuple #[.int .i64 (putN l L U n), .int .i64 (putE L U n)]) ∧ ArStrAt w' B b mb v' (putL l L U n x) ∧ MeterAt w' mb L (putU L U n) (putM L U M n) ∧
    Chg (fun k => k = b ∨ k = mb ∨ v.ownBlock = some k) w w' ∧ Moved w v v'

theorem ArStrAt.neMeter {w : World} {B b mb : Nat} {v : Value} {l : List (Value × Int)} (h : ArStrAt w B b mb v l) {L U M : Int} (hm : MeterAt w mb L U M) : b ≠ mb := by
  intro e
  have h1 := h.blk
  rw [e] at h1
  unfold MeterAt at hm
  rw [hm] at h1
  simp at h1

set_option maxRecDepth 100000 in
set_option maxHeartbeats 2000000 in
theorem arStrPut_calls {w : World} {B b mb : Nat} {v : Value} {l : List (Value × Int)} (h : ArStrAt w B b mb v l) {L U M : Int} (hm : MeterAt w mb L U M) (h0 : MOk L U M) (hc : cost l ≤ U) (hB : B ≤ w.heap.size) (x : ByteArray) (n : Int) :
    Calls Try.prog 31 #[.pointer (some ⟨b, 0, none⟩), .string x, .int .i64 n] w (ArStrPut w B b mb v l L U M (.string x) n) := by
  obtain ⟨c0, c1, c2, f1, f2⟩ := h.cells
  have hne := h.neMeter hm
  have H := hid h
  have HM := hid hm
  have h0' := h0
  obtain ⟨g0, g1, g2, g3⟩ := h0'
  by_cases hn : n < 1
  · have e1 : putN l L U n = 0 := by unfold putN; rw [if_pos hn]
    have e2 : putE L U n = 1 := by unfold putE; rw [if_pos hn]
    have e3 : putL l L U n (.string x) = l := by unfold putL; rw [if_pos hn]
    have e4 : putU L U n = U := by unfold putU; rw [if_pos hn]
    have e5 : putM L U M n = M := by unfold putM; rw [if_pos hn]
    unfold ArStrPut
    rw [e1, e2, e3, e4, e5]
    clear e1 e2 e3 e4 e5 h hm
    go_enter Try.func31, Try.ntmps31
    go_wp2_with fail
    go_ret2
    exact ⟨v, rfl, H.out, HM.out, Chg.refl _ _, Moved.same _ _⟩
  · by_cases hq : L - U < n
    · have e1 : putN l L U n = 0 := by unfold putN; rw [if_neg hn, if_pos hq]
      have e2 : putE L U n = 5 := by unfold putE; rw [if_neg hn, if_pos hq]
      have e3 : putL l L U n (.string x) = l := by unfold putL; rw [if_neg hn, if_pos hq]
      have e4 : putU L U n = U := by unfold putU; rw [if_neg hn, if_pos hq]
      have e5 : putM L U M n = M := by unfold putM takeM; rw [if_neg hn, if_neg (by omega), if_pos hq]
      unfold ArStrPut
      rw [e1, e2, e3, e4, e5]
      clear e1 e2 e3 e4 e5 h hm
      have t := take_calls HM.out h0 n
      have t1 : takeE L U n = 5 := by unfold takeE; rw [if_neg (by omega), if_pos hq]
      have t2 : takeU L U n = U := by unfold takeU; rw [if_neg (by omega), if_pos hq]
      have t3 : takeM L U M n = M := by unfold takeM; rw [if_neg (by omega), if_pos hq]
      rw [t1, t2, t3] at t
      clear t1 t2 t3
      have T := hid t
      clear t
      go_enter Try.func31, Try.ntmps31
      go_wp2_with fail
      refine T.out.mono ?_
      rintro e w2 ⟨rfl, m2, k2⟩
      go_wp2_with fail
      go_ret2
      refine ⟨v, rfl, H.out.chg k2 hne (fun k hk e => H.out.ne (k := mb) HM.out (by decide) (e ▸ hk)), m2, k2.mono (fun _ h => .inr (.inl h)), Moved.same _ _⟩
    · have e1 : putN l L U n = l.length := by unfold putN; rw [if_neg hn, if_neg hq]
      have e2 : putE L U n = 0 := by unfold putE; rw [if_neg hn, if_neg hq]
      have e3 : putL l L U n (.string x) = l ++ [(.string x, n)] := by unfold putL; rw [if_neg hn, if_neg hq]
      have e4 : putU L U n = U + n := by unfold putU; rw [if_neg hn, if_neg hq]
      have e5 : putM L U M n = takeM L U M n := by unfold putM; rw [if_neg hn]
      unfold ArStrPut
      rw [e1, e2, e3, e4, e5]
      clear e1 e2 e3 e4 e5
      have t := take_calls HM.out h0 n
      have t1 : takeE L U n = 0 := by unfold takeE; rw [if_neg (by omega), if_neg hq]
      have t2 : takeU L U n = U + n := by unfold takeU; rw [if_neg (by omega), if_neg hq]
      rw [t1, t2] at t
      clear t1 t2
      generalize takeM L U M n = M' at *
      have T := hid t
      clear t
      have hlen := h.len_le
      have hcp := h.pos.nonneg
      have hrow := h.ne (k := mb) hm (by decide)
      have hrowb := h.ne (k := b) h.blk (by decide)
      clear h hm
      obtain ⟨i0, hi, hz0, hz1, hz2⟩ := info_parts infoStr
      go_enter Try.func31, Try.ntmps31
      go_wp2_with fail
      refine T.out.mono ?_
      rintro e w2 ⟨rfl, m2, k2⟩
      have H2 := hid (H.out.chg k2 hne (fun k hk e => hrow (e ▸ hk)))
      obtain ⟨d0, d1, d2, f1', f2'⟩ := H2.out.cells
      have hlt := H2.out.lt
      have hmlt := m2.lt
      have hown := H2.out.own
      clear c0 c1 c2 f1 f2
      go_wp2_with (at_builtin; refine wpList_append_mv _ rfl _ _ 71 rfl B 75 i0 _ 2 24 Try.underlying71 hi hz0 hz1 hz2 rfl (by decide) v l.length (flat l) rfl (hown.alloc _) ⟨w2.heap.size, 0, none⟩ 1 1 [.string x, .int .i64 n] rfl rfl ?c1 ?c2 ?c3 ?c4 ?c5 (by decide) ?_)
      case c1 =>
        intro j u hj
        match j, hj with
        | 0, hj => simp at hj; subst hj; simp [Addr.add]
        | 1, hj => simp at hj; subst hj; simp [Addr.add]
      case c2 => intro u hu; simp at hu; rcases hu with rfl | rfl <;> rfl
      case c3 => unfold maxLen; omega
      case c4 => omega
      case c5 => have := k2.size; simp; omega
      · intro g cap w3 hown3 hgrow hmv
        have A3 := (hgrow.block b (by simp; omega) (fun e => hrowb e.symm)).trans ((Below.heap_alloc _ _ _ hlt).trans H2.out.blk)
        have M3 := (hgrow.block mb (by simp; omega) (fun e => hrow e.symm)).trans ((Below.heap_alloc _ _ _ hmlt).trans m2)
        have q0 : w3.cell? ⟨b, 1, none⟩ = some v := by simp [World.cell?, A3]
        have q1 : w3.cell? ⟨b, 2, none⟩ = some (.int .i64 (cost l)) := by simp [World.cell?, A3]
        have q2 : w3.frozen? ⟨b, 1, none⟩ = false := by simp [World.frozen?, A3]
        have q3 : w3.frozen? ⟨b, 2, none⟩ = false := by simp [World.frozen?, A3]
        have hgb : g ≠ b := by
          rintro rfl
          rcases hown3.2 with ⟨h, _⟩ | ⟨g', _, _, h, _, hg, _⟩
          · simp at h
          · simp at h
            rw [← h.1, A3] at hg
            simp at hg
        have K3 : Chg (fun k => k = b ∨ k = mb ∨ v.ownBlock = some k) w w3 :=
          ((k2.mono (fun _ h => .inr (.inl h))).alloc _).trans ((grownBy_chg hgrow).mono (fun _ h => .inr (.inr h.symm)))
        have hmv' : Moved w v (.slice (some ⟨g, 0, none⟩) (l.length + 1) cap) := by
          rcases hmv with h | ⟨g', h, hg⟩
          · exact .inl h
          · exact .inr ⟨g', h, by have := k2.size; simp at hg; omega⟩
        clear hown d0 d1 d2 f1' f2' hi hz0 hz1 hz2 hgrow hmv
        have A3' := hid A3
        have M3' := hid M3
        have hown3' := hid hown3
        clear A3 M3 hown3
        go_wp2_with fail
        go_ret2
        refine ⟨.slice (some ⟨g, 0, none⟩) (l.length + 1) cap, ?_, ⟨?_, ?_, H.out.pos.snoc (by omega), kind_snoc (P := fun y => ∃ x, y = .string x) H.out.kind ⟨_, rfl⟩⟩, ?_, (K3.setCell (.inl (.inl rfl)) _).setCell (.inl (.inl rfl)) _, hmv'⟩
        · simp
        · rw [cost_snoc]
          exact (heap_setCell_same (heap_setCell_same A3'.out)).trans (by simp)
        · rw [flat_snoc]
          have o1 := ownsRow_setCell_other hown3'.out (a := ⟨b, 1, none⟩) (by simp [Value.ownBlock, hgb]) (.slice (some ⟨g, 0, none⟩) (l.length + 1) cap)
          have o2 := ownsRow_setCell_other o1 (a := ⟨b, 2, none⟩) (by simp [Value.ownBlock, hgb]) (.int .i64 (cost l + n))
          simpa using o2
        · unfold MeterAt
          rw [Below.heap_setCell _ _ _ _ (fun e => hne e.symm), Below.heap_setCell _ _ _ _ (fun e => hne e.symm)]
          exact M3'.out

end Go.Proofs.Ytgbjjceicpmopaa
