/-
  ArenaAgain: what is cut makes room for as much: the walk of the law.
-/
import Derived.Test.YtgbjjceicpmopaaArenaRefused
namespace Go.Proofs.Ytgbjjceicpmopaa
open Go.RowKit

theorem owns_ne {w : World} {base size n : Nat} {e : TypeId} {v : Value} {xs : List Value} (h : w.ownsRow base e size v n xs) {k : Nat} {c : Array Value} {t : TypeId} {f : Nat × Nat} (hk : w.heap[k]? = some (.cells c t f)) (ht : t ≠ e) : v.ownBlock ≠ some k := by
  intro e'
  rcases h.2 with ⟨rfl, _⟩ | ⟨g, cap, cur, rfl, _, hg, _⟩
  · simp [Value.ownBlock] at e'
  · simp [Value.ownBlock] at e'
    subst e'
    rw [hg] at hk
    simp at hk
    exact ht hk.2.1.symm
theorem owns_apart {w : World} {base size n base2 size2 n2 : Nat} {e e2 : TypeId} {v v2 : Value} {xs xs2 : List Value} (h : w.ownsRow base e size v n xs) (h2 : w.ownsRow base2 e2 size2 v2 n2 xs2) (he : e2 ≠ e) : ∀ k, v.ownBlock = some k → v2.ownBlock ≠ some k := by
  intro k hk hk2
  rcases h2.2 with ⟨rfl, _⟩ | ⟨g, cap, cur, rfl, _, hg, _⟩
  · simp [Value.ownBlock] at hk2
  · simp [Value.ownBlock] at hk2
    subst hk2
    exact owns_ne h hg he hk

theorem ArS.other {S : Nat → Prop} {w0 wr w' : World} {ab mb : Nat} {L U M : Int} {v : Value} {l : List (Value × Int)} (h : ArS w0 wr ab mb L U M v l) (hc : Chg S wr w') (h1 : ¬ S mb) (h2 : ¬ S ab) (h3 : ∀ k, v.ownBlock = some k → ¬ S k) (h4 : ∀ k, S k → w0.heap.size ≤ k) : ArS w0 w' ab mb L U M v l :=
  ⟨h.m.chg hc h1, h.k, h.a.chg hc h2 h3, h.c, h.b.trans (hc.below h.b.size h4), h.hm, h.ha⟩

def ArPutC (w0 wr : World) (ab mb : Nat) (L U n : Int) (v : Value) (l : List (Value × Int)) (x : Value) (e : Ending) (w' : World) : Prop :=
  ∃ M' v', e = .returned (.tuple #[.int .i64 (putN l L U n), .int .i64 (putE L U n)]) ∧ ArS w0 w' ab mb L (putU L U n) M' v' (putL l L U n x) ∧ Chg (fun k => k = ab ∨ k = mb ∨ v.ownBlock = some k) wr w'
theorem ArS.putc {w0 wr : World} {ab mb : Nat} {L U M : Int} {v : Value} {l : List (Value × Int)} (h : ArS w0 wr ab mb L U M v l) (x n : Int) :
    Calls Try.prog 36 #[.pointer (some ⟨ab, 0, none⟩), .int .i64 x, .int .i64 n] wr (ArPutC w0 wr ab mb L U n v l (.int .i64 x)) :=
  (arIntPut_calls h.a h.m h.k h.c h.b.size x n).mono fun _ _ ⟨v', he, ha, hm, hc, _⟩ =>
    ⟨_, v', he, ⟨hm, h.k.put n, ha, by rw [cost_putL]; have := h.c; omega, below_ar h.b hc h.ha h.hm h.rowLe, h.hm, h.ha⟩, hc⟩
def ArCutC (w0 wr : World) (ab mb : Nat) (L U n : Int) (v : Value) (l : List (Value × Int)) (e : Ending) (w' : World) : Prop :=
  ∃ M' v', e = .returned (.int .i64 (cost (l.drop (cutK l.length n)))) ∧ ArS w0 w' ab mb L (U - cost (l.drop (cutK l.length n))) M' v' (l.take (cutK l.length n)) ∧ Chg (fun k => k = ab ∨ k = mb ∨ v.ownBlock = some k) wr w'
theorem ArS.cutc {w0 wr : World} {ab mb : Nat} {L U M : Int} {v : Value} {l : List (Value × Int)} (h : ArS w0 wr ab mb L U M v l) (n : Int) :
    Calls Try.prog 39 #[.pointer (some ⟨ab, 0, none⟩), .int .i64 n] wr (ArCutC w0 wr ab mb L U n v l) :=
  (arIntCut_calls h.a h.m h.k h.c h.b.size n).mono fun _ _ ⟨v', he, ha, hm, hc, _⟩ => by
    have h1 := cost_take_drop l (cutK l.length n)
    have h2 := (h.a.pos.take (cutK l.length n)).nonneg
    have h3 := (h.a.pos.drop (cutK l.length n)).nonneg
    have h4 := h.c
    refine ⟨_, v', he, ⟨hm, ?_, ha, by omega, below_ar h.b hc h.ha h.hm h.rowLe, h.hm, h.ha⟩, hc⟩
    have := h.k
    unfold MOk at this ⊢
    omega

/-- What the puts leave, one behind the other. -/
def again (L : Int) (Y : Nat → Int) (q : List (Value × Int)) (U : Int) : Nat → List (Value × Int) × Int
  | 0 => (q, U)
  | j + 1 => (putL (again L Y q U j).1 L (again L Y q U j).2 (Y j) (.int .i64 (100 + (j : Int))), putU L (again L Y q U j).2 (Y j))
/-- Their errors. -/
def errs (L : Int) (Y : Nat → Int) (q : List (Value × Int)) (U : Int) (j : Nat) : List Value := (List.range j).map fun i => .int .i64 (putE L (again L Y q U i).2 (Y i))
theorem errs_succ (L : Int) (Y : Nat → Int) (q : List (Value × Int)) (U : Int) (j : Nat) : errs L Y q U (j + 1) = errs L Y q U j ++ [.int .i64 (putE L (again L Y q U j).2 (Y j))] := by simp [errs, List.range_succ]
theorem errs_length (L : Int) (Y : Nat → Int) (q : List (Value × Int)) (U : Int) (j : Nat) : (errs L Y q U j).length = j := by simp [errs]
theorem errs_get (L : Int) (Y : Nat → Int) (q : List (Value × Int)) (U : Int) (n j : Nat) (h : j < n) : (errs L Y q U n)[j]? = some (.int .i64 (putE L (again L Y q U j).2 (Y j))) := by simp [errs, h]
theorem again_more (L : Int) (Y : Nat → Int) (q : List (Value × Int)) (U : Int) (j : Nat) : ∃ r, (again L Y q U j).1 = q ++ r ∧ (again L Y q U j).2 = U + cost r := by
  induction j with
  | zero => exact ⟨[], by simp [again], by simp [again]⟩
  | succ j ih =>
    obtain ⟨r, h1, h2⟩ := ih
    simp only [again]
    by_cases hn : Y j < 1
    · exact ⟨r, by unfold putL; rw [if_pos hn, h1], by unfold putU; rw [if_pos hn, h2]⟩
    · by_cases hu : L - (again L Y q U j).2 < Y j
      · exact ⟨r, by unfold putL; rw [if_neg hn, if_pos hu, h1], by unfold putU; rw [if_neg hn, if_pos hu, h2]⟩
      · refine ⟨r ++ [(.int .i64 (100 + (j : Int)), Y j)], ?_, ?_⟩
        · unfold putL; rw [if_neg hn, if_neg hu, h1, List.append_assoc]
        · unfold putU; rw [if_neg hn, if_neg hu, h2, cost_snoc]; omega
theorem again_cut (L : Int) (Y : Nat → Int) (q : List (Value × Int)) (U : Int) (j : Nat) :
    (again L Y q U j).1.take (cutK (again L Y q U j).1.length q.length) = q ∧ (again L Y q U j).2 - cost ((again L Y q U j).1.drop (cutK (again L Y q U j).1.length q.length)) = U := by
  obtain ⟨r, h1, h2⟩ := again_more L Y q U j
  have hk : cutK (again L Y q U j).1.length q.length = q.length := by
    rw [h1]; unfold cutK; rw [List.length_append]; (repeat' split) <;> omega
  rw [hk, h1, h2]
  simp

theorem infoErr : (Try.prog.info? 37).map (fun i => (i.zero, i.size, i.bytes)) = some (some (.int .i64 0), 1, 8) := by kernel_rfl

set_option maxRecDepth 100000 in
set_option maxHeartbeats 8000000 in
theorem again_calls (w : World) (lim : Int) (_ : -9223372036854775808 ≤ lim ∧ lim ≤ 9223372036854775807) {a : Option Addr} {l cap b o : Nat} {F : Nat → Int} (H : IntsAt w a l b o F) (_ : l ≤ cap) (_ : cap ≤ maxLen) (_ : a = none → l = 0 ∧ cap = 0)
    {a2 : Option Addr} {l2 cap2 b2 o2 : Nat} {Y : Nat → Int} (H2 : IntsAt w a2 l2 b2 o2 Y) (_ : l2 ≤ cap2) (_ : cap2 ≤ maxLen) (_ : a2 = none → l2 = 0 ∧ cap2 = 0) :
    Calls Try.prog 10 #[.int .i64 lim, .slice a l cap, .slice a2 l2 cap2] w (Says w true) := by
  go_enter Try.func10, Try.ntmps10
  go_wp2_with fail
  refine (awake2_calls _).mono ?_
  rintro e w1 ⟨rfl, b1⟩
  go_wp2_with fail
  refine (newm_calls _ _).mono ?_
  rintro e w2 ⟨rfl, m2, c2, _⟩
  go_wp2_with fail
  refine (arIntNew_calls _ _).mono ?_
  rintro e w3 ⟨rfl, a3, c3, _⟩
  have s3 := ArS.new b1 m2 (MOk.new lim) c2 rfl rfl a3 c3
  generalize w1.heap.size = mb at s3 ⊢
  generalize w2.heap.size = ab at s3 ⊢
  clear a3 c3 m2 c2 b1
  by_cases hl : l ≤ 30
  · by_cases hl2 : l2 ≤ 30
    · have hl' : (l : Int) ≤ 30 := by omega
      have hl2' : (l2 : Int) ≤ 30 := by omega
      go_wp2_with fail
      go_loopw [10] (fun i wr => ∃ (k : Nat) (U M : Int) (v : Value) (q : List (Value × Int)), k ≤ l ∧ i = .int .i64 k ∧ ArS w wr ab mb (held lim) U M v q) (fun i _ => l - (intOf i).toNat)
      case atStart => exact ⟨0, 0, 0, _, _, by omega, rfl, s3⟩
      case round =>
        obtain ⟨k, U, M, v, q, hk, rfl, s4⟩ := hrel
        by_cases hlt : k < l
        · obtain rfl := H.addr (by omega)
          have hblt := World.block_lt_of_cell? _ _ (H.cell k hlt)
          have x0 : wr.cell? ⟨b, o + k, none⟩ = some (.int .i64 (F k)) := (s4.b.cell (p := ⟨b, o + k, none⟩) hblt).trans (H.cell k hlt)
          go_wp2_with fail
          refine (s4.put _ _).mono ?_
          rintro e w5 ⟨M5, v5, rfl, s5⟩
          go_wp2_with fail
          go_roundw
          case rel => exact ⟨k + 1, _, _, _, _, by omega, by go_num, s5⟩
          case measure => simp [intOf]; omega
        · clear s3
          go_wp2_with fail
          refine (arIntLen_calls s4.a).mono ?_
          rintro e w5 ⟨rfl, rfl⟩
          have hq := s4.len
          go_wp2_with fail
          obtain ⟨wq, hwq⟩ : ∃ wq : World, wq = wr := ⟨wr, rfl⟩
          rw [← hwq] at s4 ⊢
          clear hwq
          go_loopw [12, 13] (fun vw i wr => ∃ (j : Nat) (M' : Int) (v' : Value), j ≤ l2 ∧ i = .int .i64 j ∧ wr.ownsRow w.heap.size 37 1 vw j (errs (held lim) Y q U j) ∧ ArS w wr ab mb (held lim) (again (held lim) Y q U j).2 M' v' (again (held lim) Y q U j).1) (fun _ i _ => l2 - (intOf i).toNat)
          case atStart => exact ⟨0, M, v, by omega, rfl, World.ownsRow_nil _ _ _ _, s4⟩
          case round =>
            obtain ⟨j, M', v', hj, rfl, hown, s5⟩ := hrel
            clear s4
            by_cases hjl : j < l2
            · obtain rfl := H2.addr (by omega)
              have hblt2 := World.block_lt_of_cell? _ _ (H2.cell j hjl)
              have y0 : wr.cell? ⟨b2, o2 + j, none⟩ = some (.int .i64 (Y j)) := (s5.b.cell (p := ⟨b2, o2 + j, none⟩) hblt2).trans (H2.cell j hjl)
              obtain ⟨i0, hi, hz0, hz1, hz2⟩ := info_parts infoErr
              go_wp2_with fail
              refine (s5.putc _ _).mono ?_
              rintro e w6 ⟨M6, v6, rfl, s6, c6⟩
              have hown6 := ownsRow_chg hown c6 (fun k hk => by
                rintro (e | e | e)
                · subst e; exact owns_ne hown s5.a.blk (by decide) hk
                · subst e; exact owns_ne hown s5.m (by decide) hk
                · exact owns_apart hown s5.a.own (by decide) k hk e)
              have h7 := errs_succ (held lim) Y q U j
              generalize putE (held lim) (again (held lim) Y q U j).2 (Y j) = E at h7 ⊢
              have H7 := hid h7
              clear h7
              go_wp2_with (at_builtin; refine wpList_append_mv _ rfl _ _ 54 rfl w.heap.size 37 i0 _ 1 8 Try.underlying54 hi hz0 hz1 hz2 rfl (by decide) u12 j (errs (held lim) Y q U j) rfl (hown6.alloc _) ⟨w6.heap.size, 0, none⟩ 1 1 [.int .i64 E] rfl rfl ?c1 ?c2 ?c3 ?c4 ?c5 (by decide) ?_)
              case c1 =>
                intro j u hj
                match j, hj with
                | 0, hj => simp at hj; subst hj; simp [Addr.add]
              case c2 => intro u hu; simp at hu; subst hu; rfl
              case c3 => unfold maxLen; omega
              case c4 => omega
              case c5 => have := s6.b.size; simp; omega
              · intro g cp w7 hown7 hgrow hmv
                have s7a := s6.same ((Chg.refl _ _).alloc (.cells #[.int .i64 E] 37))
                have ho := hown6.alloc (.cells #[.int .i64 E] 37)
                have s7 := s7a.other (grownBy_chg hgrow) (fun e => owns_ne ho s7a.m (by decide) e.symm) (fun e => owns_ne ho s7a.a.blk (by decide) e.symm) (fun k hk e => owns_apart ho s7a.a.own (by decide) k e.symm hk) (fun k e => (ho.lt k e.symm).1)
                rw [← H7.out] at hown7
                clear hown6 ho s7a s6 c6 hown hgrow hmv s5 H7 hi hz0 hz1 hz2
                go_wp2_with fail
                go_roundw
                case rel => exact ⟨j + 1, M6, v6, by omega, by go_num, hown7, s7⟩
                case measure => simp [intOf]; omega
            · have hjl2 : j = l2 := by omega
              subst hjl2
              go_wp2_with fail
              refine (arIntLen_calls s5.a).mono ?_
              rintro e w6 ⟨rfl, rfl⟩
              go_wp2_with fail
              refine (arIntCells_calls s5.a).mono ?_
              rintro e w6 ⟨rfl, rfl⟩
              have hq5 := s5.len
              go_wp2_with fail
              refine (s5.cutc _).mono ?_
              rintro e w6 ⟨M6, v6, rfl, s6, c6⟩
              have hown6 := ownsRow_chg hown c6 (fun k hk => by
                rintro (e | e | e)
                · subst e; exact owns_ne hown s5.a.blk (by decide) hk
                · subst e; exact owns_ne hown s5.m (by decide) hk
                · exact owns_apart hown s5.a.own (by decide) k hk e)
              obtain ⟨k1, k2⟩ := again_cut (held lim) Y q U j
              rw [k1, k2] at s6
              clear k1 k2 c6 hown s5
              have hform : (u12 = .slice none 0 0 ∧ j = 0) ∨ ∃ g cp, u12 = .slice (some ⟨g, 0, none⟩) j cp := by
                rcases hown6.2 with ⟨h, h'⟩ | ⟨g, cp, _, h, _⟩
                · exact .inl ⟨h, h'⟩
                · exact .inr ⟨g, cp, h⟩
              obtain ⟨QL, hQL⟩ : ∃ n : Nat, n = (again (held lim) Y q U j).1.length := ⟨_, rfl⟩
              obtain ⟨QC, hQC⟩ : ∃ n : Int, n = cost (again (held lim) Y q U j).1 := ⟨_, rfl⟩
              rw [← hQL, ← hQC]
              have HQL := hid hQL
              have HQC := hid hQC
              clear hQL hQC
              obtain ⟨ao, cp, ln, hu, hln, hg⟩ : ∃ (ao : Option Addr) (cp ln : Nat), u12 = .slice ao ln cp ∧ ln = j ∧ (0 < j → ∃ g, ao = some ⟨g, 0, none⟩) := by
                rcases hform with ⟨h, h'⟩ | ⟨g, cp, h⟩
                · exact ⟨none, 0, 0, h, h'.symm, fun hp => by omega⟩
                · exact ⟨_, cp, j, h, rfl, fun _ => ⟨g, rfl⟩⟩
              subst hln
              subst hu
              clear hform
              go_wp2_with fail
              obtain ⟨wq, hwq⟩ : ∃ wq : World, wq = w6 := ⟨w6, rfl⟩
              rw [← hwq] at s6 hown6 ⊢
              clear hwq
              go_loopw [18] (fun i wr => ∃ (t : Nat) (M' : Int) (v' : Value), t ≤ ln ∧ i = .int .i64 t ∧ wr.ownsRow w.heap.size 37 1 (.slice ao ln cp) ln (errs (held lim) Y q U ln) ∧ ArS w wr ab mb (held lim) (again (held lim) Y q U t).2 M' v' (again (held lim) Y q U t).1) (fun i _ => ln - (intOf i).toNat)
              case atStart => exact ⟨0, M6, v6, by omega, rfl, hown6, s6⟩
              case round =>
                obtain ⟨t, M7, v7, ht, rfl, hown7, s7⟩ := hrel
                clear s6 hown6
                by_cases htl : t < ln
                · obtain rfl := H2.addr (by omega)
                  obtain ⟨g, rfl⟩ := hg (by omega)
                  have hblt2 := World.block_lt_of_cell? _ _ (H2.cell t htl)
                  have y0 : wr.cell? ⟨b2, o2 + t, none⟩ = some (.int .i64 (Y t)) := (s7.b.cell (p := ⟨b2, o2 + t, none⟩) hblt2).trans (H2.cell t htl)
                  go_wp2_with fail
                  refine (s7.putc _ _).mono ?_
                  rintro e w8 ⟨M8, v8, rfl, s8, c8⟩
                  have hown8 := ownsRow_chg hown7 c8 (fun k hk => by
                    rintro (e | e | e)
                    · subst e; exact owns_ne hown7 s7.a.blk (by decide) hk
                    · subst e; exact owns_ne hown7 s7.m (by decide) hk
                    · exact owns_apart hown7 s7.a.own (by decide) k hk e)
                  have z0 := hown8.cellAt t (by omega)
                  rw [errs_get _ _ _ _ _ _ htl] at z0
                  generalize putE (held lim) (again (held lim) Y q U t).2 (Y t) = E at z0 ⊢
                  clear c8 hown7 s7
                  go_wp2_with fail
                  go_roundw
                  case rel => exact ⟨t + 1, M8, v8, by omega, by go_num, hown8, s8⟩
                  case measure => simp [intOf]; omega
                · have htl2 : t = ln := by omega
                  subst htl2
                  have e1 : ((again (held lim) Y q U t).1.length : Int) = QL := by rw [HQL.out]
                  have e2 : cost (again (held lim) Y q U t).1 = QC := HQC.out.symm
                  have E1 := hid e1
                  have E2 := hid e2
                  clear e1 e2
                  go_wp2_with (first | (go_at_call 37; refine (arIntLen_calls s7.a).mono ?_; rintro e w8 ⟨rfl, rfl⟩; rw [E1.out]) | (go_at_call 38; refine (arIntCells_calls s7.a).mono ?_; rintro e w8 ⟨rfl, rfl⟩; rw [E2.out]))
                  go_ret
                  exact ⟨by simp, s7.b⟩
    · have hl2' : 30 < (l2 : Int) := by omega
      have hl' : (l : Int) ≤ 30 := by omega
      go_wp2_with fail
      go_ret
      exact ⟨rfl, s3.b⟩
  · have hl' : 30 < (l : Int) := by omega
    go_wp2_with fail
    go_ret
    exact ⟨rfl, s3.b⟩

end Go.Proofs.Ytgbjjceicpmopaa
