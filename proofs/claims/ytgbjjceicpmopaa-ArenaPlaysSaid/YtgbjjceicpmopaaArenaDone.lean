/-
  What is done by both arenas, the program's and the document's, is the same.
-/
import Derived.Test.YtgbjjceicpmopaaArenaBoth
namespace Go.Proofs.Ytgbjjceicpmopaa
open Go.RowKit

set_option maxHeartbeats 400000 in
theorem refIs_calls (n : Nat) (i : Int) (w : World) : Calls Try.prog 50 #[.int .i64 n, .int .i64 i] w fun e w' => e = .returned (.bool (isIn n i)) ∧ w' = w := by
  by_cases h0 : 0 ≤ i
  · by_cases h1 : i < n
    · rw [isIn_yes ⟨h0, h1⟩]
      go_enter Try.func50, Try.ntmps50
      go_wp2
      go_ret
      exact ⟨by simp, rfl⟩
    · rw [isIn_no (by omega)]
      go_enter Try.func50, Try.ntmps50
      go_wp2
      go_ret
      exact ⟨by simp, rfl⟩
  · rw [isIn_no (by omega)]
    go_enter Try.func50, Try.ntmps50
    go_wp2
    go_ret
    exact ⟨by simp, rfl⟩

/-- Both did the same. -/
def BothDid2 (w0 : World) (ab mb rb rm : Nat) (L : Int) (e : Ending) (w' : World) : Prop :=
  ∃ U xs cs, e = .returned (.bool true) ∧ ArP w0 w' ab mb rb rm L U xs cs

/-- .. and nothing changed. -/
def BothAt (w0 : World) (ab mb rb rm : Nat) (L U : Int) (xs cs : List Int) (e : Ending) (w' : World) : Prop := e = .returned (.bool true) ∧ ArP w0 w' ab mb rb rm L U xs cs

theorem RefArAt.form {w : World} {B b rm : Nat} {vl vc : Value} {xs cs : List Int} (h : RefArAt w B b rm vl vc xs cs) : ∃ al capl, vl = .slice al xs.length capl ∧ (0 < xs.length → ∃ g, al = some ⟨g, 0, none⟩) := by
  rcases owns_form h.ownL with ⟨h1, h2⟩ | ⟨g, cap, h1, _, _⟩
  · exact ⟨none, 0, by rw [h1, h2], fun h => by omega⟩
  · exact ⟨_, cap, h1, fun _ => ⟨g, rfl⟩⟩

/-- The box of the op, and what is kept behind it. -/
structure Boxed (w0 wr : World) (ab mb rb rm : Nat) (L U : Int) (xs cs : List Int) (bx : Nat) (d n x : Int) : Prop where
  p : ArP w0 wr ab mb rb rm L U xs cs
  o : wr.heap[bx]? = some (.cells #[.int .i64 d, .int .i64 n, .int .i64 x] 65 (0, 0))
  new : w0.heap.size ≤ bx
theorem Boxed.cells {w0 wr : World} {ab mb rb rm : Nat} {L U : Int} {xs cs : List Int} {bx : Nat} {d n x : Int} (h : Boxed w0 wr ab mb rb rm L U xs cs bx d n x) :
    wr.cell? ⟨bx, 0, none⟩ = some (.int .i64 d) ∧ wr.cell? ⟨bx, 1, none⟩ = some (.int .i64 n) ∧ wr.cell? ⟨bx, 2, none⟩ = some (.int .i64 x) := by
  have := h.o
  simp [World.cell?, this]
theorem Boxed.drewN {w0 wr : World} {ab mb rb rm : Nat} {L U : Int} {xs cs : List Int} {bx : Nat} {d n x : Int} (h : Boxed w0 wr ab mb rb rm L U xs cs bx d n x) (q : Nat) : Boxed w0 (wr.drewN q) ab mb rb rm L U xs cs bx d n x := ⟨h.p.drewN q, h.o, h.new⟩

theorem Boxed.kept {w0 wr w' : World} {ab mb rb rm : Nat} {L U : Int} {xs cs : List Int} {bx : Nat} {d n x : Int} (h : Boxed w0 wr ab mb rb rm L U xs cs bx d n x) {M : Int} {v : Value} (hs : ArS w0 wr ab mb L U M v (both xs cs))
    (hc : Chg (fun k => k = ab ∨ k = mb ∨ v.ownBlock = some k) wr w') : w'.heap[bx]? = some (.cells #[.int .i64 d, .int .i64 n, .int .i64 x] 65 (0, 0)) := by
  refine (hc.block bx (lt_of_block h.o) ?_).trans h.o
  rintro (e | e | e)
  · have h1 := hs.a.blk; rw [← e, h.o] at h1; simp at h1
  · have h1 := hs.m; unfold MeterAt at h1; rw [← e, h.o] at h1; simp at h1
  · exact owns_ne hs.a.own h.o (by decide) e
theorem box_apart {w : World} {B rb rm bx : Nat} {d n x L U M : Int} {vl vc : Value} {xs cs : List Int} (h : w.heap[bx]? = some (.cells #[.int .i64 d, .int .i64 n, .int .i64 x] 65 (0, 0))) (hr : RefArAt w B rb rm vl vc xs cs) (hm : RefAt w rm L U M) : ¬ (bx = rb ∨ bx = rm) := by
  rintro (e | e)
  · have h1 := hr.blk; rw [← e, h] at h1; simp at h1
  · unfold RefAt at hm; rw [← e, h] at hm; simp at hm
theorem box_cells {w : World} {bx : Nat} {d n x : Int} (h : w.heap[bx]? = some (.cells #[.int .i64 d, .int .i64 n, .int .i64 x] 65 (0, 0))) :
    w.cell? ⟨bx, 0, none⟩ = some (.int .i64 d) ∧ w.cell? ⟨bx, 1, none⟩ = some (.int .i64 n) ∧ w.cell? ⟨bx, 2, none⟩ = some (.int .i64 x) := by
  simp [World.cell?, h]

set_option maxRecDepth 100000 in
set_option maxHeartbeats 4000000 in
theorem done2_put {w0 w : World} {ab mb rb rm : Nat} {L U : Int} {xs cs : List Int} (h : ArP w0 w ab mb rb rm L U xs cs) (hw0 : w0.heap.size ≤ w.heap.size) (n x : Int) :
    Calls Try.prog 42 #[.pointer (some ⟨ab, 0, none⟩), .pointer (some ⟨rb, 0, none⟩), .agg #[.int .i64 1, .int .i64 n, .int .i64 x]] w (BothDid2 w0 ab mb rb rm L) := by
  have hbx : Boxed w0 (w.alloc (.cells #[.int .i64 1, .int .i64 n, .int .i64 x] 65)) ab mb rb rm L U xs cs w.heap.size 1 n x :=
    ⟨h.keep ((Chg.refl _ _).alloc _), by show (w.heap.push _)[w.heap.size]? = _; simp, hw0⟩
  go_enter Try.func42, Try.ntmps42
  go_wp2_with fail
  generalize w.alloc (.cells #[.int .i64 1, .int .i64 n, .int .i64 x] 65) = w1 at hbx ⊢
  generalize w.heap.size = bx at hbx ⊢
  obtain ⟨vl, vc, hr⟩ := hbx.p.r
  obtain ⟨al, capl, rfl, hg⟩ := hr.form
  obtain ⟨r0, r1, r2, r3, r4⟩ := hr.cells
  obtain ⟨o0, o1, o2⟩ := hbx.cells
  have hlen := hbx.p.len
  go_quiet ((go_at_call 50; exact Calls.quiet_of_same (refIs_calls _ _ _)))
  obtain ⟨M, v, hs⟩ := (hbx.p.drewN nq).s
  obtain ⟨M2, hm, hk⟩ := (hbx.p.drewN nq).k
  obtain ⟨p1, p2, p3, p4⟩ := both_put h.same L U n x
  have hsame := hid h.same
  have hsum := hid h.sum
  have t := hs.putc x n
  unfold ArPutC at t
  rw [p1, p2] at t
  have T := hid t
  have P3 := hid p3
  have P4 := hid p4
  clear t p1 p2 p3 p4
  go_wp2_with fail
  refine T.out.mono ?_
  rintro e w2 ⟨M5, v5, rfl, s5, c5⟩
  obtain ⟨hr5, hm5⟩ := ref_other hs (hr.chg (Chg.drewN (Chg.refl (fun _ => False) _) nq) (fun h => h) (fun _ _ h => h) (fun _ _ h => h)) hm c5
  have hbo : w2.heap[bx]? = some (.cells #[.int .i64 1, .int .i64 n, .int .i64 x] 65 (0, 0)) := by
    refine (c5.block bx (lt_of_block hbx.o) ?_).trans hbx.o
    rintro (e | e | e)
    · have h1 := hs.a.blk; rw [← e] at h1; have h2 : (w1.drewN nq).heap[bx]? = _ := hbx.o; rw [h2] at h1; simp at h1
    · have h1 := hs.m; unfold MeterAt at h1; rw [← e] at h1; have h2 : (w1.drewN nq).heap[bx]? = _ := hbx.o; rw [h2] at h1; simp at h1
    · exact owns_ne hs.a.own (show (w1.drewN nq).heap[bx]? = _ from hbx.o) (by decide) e
  have o0 : w2.cell? ⟨bx, 0, none⟩ = some (.int .i64 1) := by simp [World.cell?, hbo]
  have o1 : w2.cell? ⟨bx, 1, none⟩ = some (.int .i64 n) := by simp [World.cell?, hbo]
  have o2 : w2.cell? ⟨bx, 2, none⟩ = some (.int .i64 x) := by simp [World.cell?, hbo]
  have HB := hid hbo
  clear hbo
  go_wp2_with fail
  refine (refPut_calls hr5 hm5 hk (by omega) s5.b.size x n).mono ?_
  rintro e w3 ⟨vl3, vc3, rfl, hr6, hm6, c6, _, _⟩
  have s6 := ars_other s5 hr5 hm5 h.hb h.hm c6
  go_wp2_with fail
  go_ret
  refine ⟨_, _, _, by simp, ⟨_, _, s6⟩, ⟨_, _, hr6⟩, ⟨_, hm6, hk.put n⟩, P3.out, ?_, h.hb, h.hm⟩
  rw [P4.out, hsum.out]; omega

set_option maxRecDepth 100000 in
set_option maxHeartbeats 4000000 in
theorem done2_at {w0 w : World} {ab mb rb rm : Nat} {L U : Int} {xs cs : List Int} (h : ArP w0 w ab mb rb rm L U xs cs) (hw0 : w0.heap.size ≤ w.heap.size) (n x : Int) :
    Calls Try.prog 42 #[.pointer (some ⟨ab, 0, none⟩), .pointer (some ⟨rb, 0, none⟩), .agg #[.int .i64 2, .int .i64 n, .int .i64 x]] w (BothAt w0 ab mb rb rm L U xs cs) := by
  have hbx : Boxed w0 (w.alloc (.cells #[.int .i64 2, .int .i64 n, .int .i64 x] 65)) ab mb rb rm L U xs cs w.heap.size 2 n x :=
    ⟨h.keep ((Chg.refl _ _).alloc _), by show (w.heap.push _)[w.heap.size]? = _; simp, hw0⟩
  go_enter Try.func42, Try.ntmps42
  go_wp2_with fail
  generalize w.alloc (.cells #[.int .i64 2, .int .i64 n, .int .i64 x] 65) = w1 at hbx ⊢
  generalize w.heap.size = bx at hbx ⊢
  obtain ⟨vl, vc, hr⟩ := hbx.p.r
  obtain ⟨al, capl, rfl, hg⟩ := hr.form
  obtain ⟨r0, r1, r2, r3, r4⟩ := hr.cells
  obtain ⟨o0, o1, o2⟩ := hbx.cells
  have hlen := hbx.p.len
  go_quiet ((go_at_call 50; exact Calls.quiet_of_same (refIs_calls _ _ _)))
  have hp0 := hid hbx.p
  have hbx := hbx.drewN nq
  have hr0 := hid hr
  have hr := hr.chg (Chg.drewN (Chg.refl (fun _ => False) w1) nq) (fun h => h) (fun _ _ h => h) (fun _ _ h => h)
  obtain ⟨M, v, hs⟩ := hbx.p.s
  obtain ⟨M2, hm, hk⟩ := hbx.p.k
  have hsame := hid h.same
  have hsum := hid h.sum
  by_cases hin : 0 ≤ n ∧ n < xs.length
  · obtain ⟨h0, h1⟩ := hin
    obtain ⟨k, rfl⟩ := Int.eq_ofNat_of_zero_le h0
    have hkx : k < xs.length := by omega
    obtain ⟨g, rfl⟩ := hg (by omega)
    have hv := hid (both_val h.same k hkx)
    have hi := hid (isIn_yes (n := xs.length) (i := (k : Int)) ⟨h0, h1⟩)
    have hl := hid (both_length h.same)
    have c0 := hr0.out.ownL.cellAt k (by omega)
    rw [ints_get xs k hkx] at c0
    generalize xs[k] = y at *
    rw [hi.out]
    go_wp2_with fail
    refine (arIntAt_calls hs.a _).mono ?_
    rintro e w2 ⟨rfl, rfl⟩
    rw [hv.out, hl.out, hi.out]
    go_wp2_with fail
    go_quiet (fail)
    go_wp2_with fail
    go_ret
    exact ⟨by simp, hp0.out.drewN _⟩
  · have hv := hid (both_none h.same hin)
    have hi := hid (isIn_no hin)
    have hl := hid (both_length h.same)
    rw [hi.out]
    go_wp2_with fail
    refine (arIntAt_calls hs.a _).mono ?_
    rintro e w2 ⟨rfl, rfl⟩
    rw [hv.out, hl.out, hi.out]
    go_wp2_with fail
    go_ret
    exact ⟨by simp, hbx.p⟩

set_option maxRecDepth 100000 in
set_option maxHeartbeats 4000000 in
theorem done2_cut {w0 w : World} {ab mb rb rm : Nat} {L U : Int} {xs cs : List Int} (h : ArP w0 w ab mb rb rm L U xs cs) (hw0 : w0.heap.size ≤ w.heap.size) (n x : Int) :
    Calls Try.prog 42 #[.pointer (some ⟨ab, 0, none⟩), .pointer (some ⟨rb, 0, none⟩), .agg #[.int .i64 4, .int .i64 n, .int .i64 x]] w (BothDid2 w0 ab mb rb rm L) := by
  have hbx : Boxed w0 (w.alloc (.cells #[.int .i64 4, .int .i64 n, .int .i64 x] 65)) ab mb rb rm L U xs cs w.heap.size 4 n x :=
    ⟨h.keep ((Chg.refl _ _).alloc _), by show (w.heap.push _)[w.heap.size]? = _; simp, hw0⟩
  go_enter Try.func42, Try.ntmps42
  go_wp2_with fail
  generalize w.alloc (.cells #[.int .i64 4, .int .i64 n, .int .i64 x] 65) = w1 at hbx ⊢
  generalize w.heap.size = bx at hbx ⊢
  obtain ⟨vl, vc, hr⟩ := hbx.p.r
  obtain ⟨al, capl, rfl, hg⟩ := hr.form
  obtain ⟨r0, r1, r2, r3, r4⟩ := hr.cells
  obtain ⟨o0, o1, o2⟩ := hbx.cells
  have hlen := hbx.p.len
  go_quiet ((go_at_call 50; exact Calls.quiet_of_same (refIs_calls _ _ _)))
  have hp0 := hid hbx.p
  have hbx := hbx.drewN nq
  have hr0 := hid hr
  have hr := hr.chg (Chg.drewN (Chg.refl (fun _ => False) w1) nq) (fun h => h) (fun _ _ h => h) (fun _ _ h => h)
  obtain ⟨M, v, hs⟩ := hbx.p.s
  obtain ⟨M2, hm, hk⟩ := hbx.p.k
  have hsame := hid h.same
  have hsum := hid h.sum
  have t1 := hs.drew.cutc n
  unfold ArCutC at t1
  have hcl : cutK (both xs cs).length n = cutK xs.length n := by rw [both_length h.same]
  rw [hcl] at t1
  have hdr : cost ((both xs cs).drop (cutK xs.length n)) = (cs.drop (cutK xs.length n)).sum := by
    have h1 := cost_take_drop (both xs cs) (cutK xs.length n)
    rw [cost_both h.same, both_take, cost_both (by simp [h.same])] at h1
    have h2 := sum_take_drop cs (cutK xs.length n)
    omega
  rw [hdr, both_take] at t1
  have hsumle : cs.sum ≤ U := by rw [h.sum]; exact Int.le_refl _
  have hsum2 : (cs.take (cutK xs.length n)).sum = U - (cs.drop (cutK xs.length n)).sum := by
    have h2 := sum_take_drop cs (cutK xs.length n)
    have h3 := h.sum
    omega
  have hsame2 : (xs.take (cutK xs.length n)).length = (cs.take (cutK xs.length n)).length := by simp [h.same]
  have HS2 := hid hsum2
  have HM2 := hid hsame2
  clear hdr hcl hsum2 hsame2
  have T1 := hid t1
  clear t1
  have ho1 : w1.cell? ⟨bx, 1, none⟩ = some (.int .i64 n) := o1
  go_wp2_with fail
  go_region_held3 (fun w' => w'.cell? ⟨bx, 1, none⟩ = some (.int .i64 n)) (first | exact ho1 | exact p1 | exact p2)
    (first
      | (go_at_call 39; refine T1.out.mono ?_; rintro e w2 ⟨M5, v5, rfl, s5, c5⟩; have c5 := c5.undrew; obtain ⟨hr5, hm5⟩ := ref_other hs hr hm c5; have hb2 := hbx.kept hs c5; obtain ⟨p0, p1, p2'⟩ := box_cells hb2)
      | (go_at_call 52; refine (refCut_calls hr5 hm5 hk hsumle n).mono ?_; rintro e w3 ⟨vl3, vc3, rfl, hr6, hm6, c6, _, _⟩; have s6 := ars_other s5 hr5 hm5 h.hb h.hm (c6.mono (fun k hk => hk.elim .inl (fun h => .inr (.inl h)))); have p2 : w3.cell? ⟨bx, 1, none⟩ = some (.int .i64 n) := (c6.cellAt (lt_of_block hb2) (box_apart hb2 hr5 hm5)).trans p1))
  go_wp2
  go_ret
  refine ⟨_, _, _, by simp, ⟨_, _, s6⟩, ⟨_, _, hr6⟩, ⟨_, hm6, ?_⟩, HM2.out, HS2.out, h.hb, h.hm⟩
  have h4 := hid hk
  obtain ⟨a0, a1, a2, a3⟩ := hk
  have h5 := (sum_take_le hr.pos (cutK xs.length n)).1
  have h6 := HS2.out
  have h7 := sum_take_drop cs (cutK xs.length n)
  have h8 := sum_nonneg (l := cs.drop (cutK xs.length n)) (fun c hc => hr.pos c (List.mem_of_mem_drop hc))
  unfold MOk
  omega

set_option maxRecDepth 100000 in
set_option maxHeartbeats 4000000 in
theorem done2_set {w0 w : World} {ab mb rb rm : Nat} {L U : Int} {xs cs : List Int} (h : ArP w0 w ab mb rb rm L U xs cs) (hw0 : w0.heap.size ≤ w.heap.size) (n x : Int) :
    Calls Try.prog 42 #[.pointer (some ⟨ab, 0, none⟩), .pointer (some ⟨rb, 0, none⟩), .agg #[.int .i64 3, .int .i64 n, .int .i64 x]] w (BothDid2 w0 ab mb rb rm L) := by
  have hbx : Boxed w0 (w.alloc (.cells #[.int .i64 3, .int .i64 n, .int .i64 x] 65)) ab mb rb rm L U xs cs w.heap.size 3 n x :=
    ⟨h.keep ((Chg.refl _ _).alloc _), by show (w.heap.push _)[w.heap.size]? = _; simp, hw0⟩
  go_enter Try.func42, Try.ntmps42
  go_wp2_with fail
  generalize w.alloc (.cells #[.int .i64 3, .int .i64 n, .int .i64 x] 65) = w1 at hbx ⊢
  generalize w.heap.size = bx at hbx ⊢
  obtain ⟨vl, vc, hr⟩ := hbx.p.r
  obtain ⟨al, capl, rfl, hg⟩ := hr.form
  obtain ⟨r0, r1, r2, r3, r4⟩ := hr.cells
  obtain ⟨o0, o1, o2⟩ := hbx.cells
  have hlen := hbx.p.len
  go_quiet ((go_at_call 50; exact Calls.quiet_of_same (refIs_calls _ _ _)))
  have hp0 := hid hbx.p
  have hbx := hbx.drewN nq
  have hr0 := hid hr
  have hr := hr.chg (Chg.drewN (Chg.refl (fun _ => False) w1) nq) (fun h => h) (fun _ _ h => h) (fun _ _ h => h)
  obtain ⟨M, v, hs⟩ := hbx.p.s
  obtain ⟨M2, hm, hk⟩ := hbx.p.k
  have hsame := hid h.same
  have hsum := hid h.sum
  by_cases hin : 0 ≤ n ∧ n < xs.length
  · obtain ⟨h0, h1⟩ := hin
    obtain ⟨k, rfl⟩ := Int.eq_ofNat_of_zero_le h0
    have hkx : k < xs.length := by omega
    obtain ⟨g, rfl⟩ := hg (by omega)
    have hi := hid (isIn_yes (n := xs.length) (i := (k : Int)) ⟨h0, h1⟩)
    have t := arIntSet_calls hs.a (k : Int) x
    unfold ArIntSet at t
    rw [both_length h.same, hi.out, if_pos rfl, Int.toNat_natCast, both_set] at t
    have T := hid t
    clear t
    rw [hi.out]
    go_wp2_with fail
    refine T.out.mono ?_
    rintro e w2 ⟨rfl, a2, c2⟩
    have c2' := c2.mono (T := fun k => k = ab ∨ k = mb ∨ v.ownBlock = some k) (fun _ h => .inr (.inr h))
    obtain ⟨hr5, hm5⟩ := ref_other hs hr hm c2'
    have hb2 := hbx.kept hs c2'
    obtain ⟨p0, p1, p2⟩ := box_cells hb2
    have s5 : ArS w0 w2 ab mb L U M v (both (xs.set k x) cs) :=
      ⟨hs.m.chg c2 (fun e => hs.a.ne hs.m (by decide) e), hs.k, a2, by rw [← both_set, cost_modify]; exact hs.c, hs.b.trans (c2.below hs.b.size (fun k hk => hs.rowLe k hk)), hs.hm, hs.ha⟩
    obtain ⟨u0, u1, u2, u3, u4⟩ := hr5.cells
    have d0 := hr5.ownL.cellAt k (by omega)
    rw [ints_get xs k hkx] at d0
    have d1 := hr5.ownL.frozenAt k
    have HR5 := hid hr5
    have S5 := hid s5
    generalize xs[k] = y at d0
    clear hr5 s5 hb2
    go_wp2_with fail
    go_region
    go_wp2
    go_ret
    have hgr : g ≠ rb := fun e => owns_ne HR5.out.ownL HR5.out.blk (by decide) (by rw [Value.ownBlock, e])
    have hst := HR5.out.ownL.stored k (.int .i64 x)
    have c6 := grownBy_chg hst.2
    have hr6 : RefArAt (w2.setCell ⟨g, k, none⟩ (.int .i64 x)) w0.heap.size rb rm (Value.slice (some ⟨g, 0, none⟩) xs.length capl) vc (xs.set k x) cs := by
      refine ⟨(Below.heap_setCell _ _ _ _ (fun e => hgr e.symm)).trans HR5.out.blk, ?_, ownsRow_chg HR5.out.ownC c6 (fun j hj e => ?_), HR5.out.apart, HR5.out.pos, by rw [List.length_set]; exact HR5.out.same⟩
      · have h9 := hst.1
        rw [List.length_set]
        simpa [ints] using h9
      · simp only [Option.some.injEq] at e
        exact HR5.out.apart g rfl (by rw [hj, e])
    have hm6 : RefAt (w2.setCell ⟨g, k, none⟩ (.int .i64 x)) rm L U M2 := hm5.chg c6 (fun e => by
      simp only [Option.some.injEq] at e
      exact owns_ne HR5.out.ownL hm5 (by decide) (by rw [Value.ownBlock, e]))
    have s6 := ars_other S5.out HR5.out hm5 h.hb h.hm (c6.mono (fun j e => .inr (.inr (.inl (by simp only [Option.some.injEq] at e; rw [Value.ownBlock, e])))))
    exact ⟨_, _, _, by simp, ArP.drew ⟨⟨_, _, s6⟩, ⟨_, _, hr6⟩, ⟨_, hm6, hk⟩, by rw [List.length_set]; exact h.same, h.sum, h.hb, h.hm⟩⟩
  · have hi := hid (isIn_no hin)
    have t := arIntSet_calls hs.a n x
    unfold ArIntSet at t
    rw [both_length h.same, hi.out, if_neg (by simp)] at t
    have T := hid t
    clear t
    rw [hi.out]
    go_wp2_with fail
    refine T.out.mono ?_
    rintro e w2 ⟨rfl, a2, c2⟩
    have c2' := c2.mono (T := fun k => k = ab ∨ k = mb ∨ v.ownBlock = some k) (fun _ h => .inr (.inr h))
    obtain ⟨hr5, hm5⟩ := ref_other hs hr hm c2'
    have s5 : ArS w0 w2 ab mb L U M v (both xs cs) :=
      ⟨hs.m.chg c2 (fun e => hs.a.ne hs.m (by decide) e), hs.k, a2, hs.c, hs.b.trans (c2.below hs.b.size (fun k hk => hs.rowLe k hk)), hs.hm, hs.ha⟩
    go_wp2_with fail
    go_ret
    exact ⟨_, _, _, by simp, ⟨_, _, s5⟩, ⟨_, _, hr5⟩, ⟨_, hm5, hk⟩, h.same, h.sum, h.hb, h.hm⟩

set_option maxRecDepth 100000 in
set_option maxHeartbeats 4000000 in
theorem done2_other {w0 w : World} {ab mb rb rm : Nat} {L U : Int} {xs cs : List Int} (h : ArP w0 w ab mb rb rm L U xs cs) (hw0 : w0.heap.size ≤ w.heap.size) (d n x : Int) (g1 : d ≠ 1) (g2 : d ≠ 2) (g3 : d ≠ 3) (g4 : d ≠ 4) :
    Calls Try.prog 42 #[.pointer (some ⟨ab, 0, none⟩), .pointer (some ⟨rb, 0, none⟩), .agg #[.int .i64 d, .int .i64 n, .int .i64 x]] w (BothDid2 w0 ab mb rb rm L) := by
  have hbx : Boxed w0 (w.alloc (.cells #[.int .i64 d, .int .i64 n, .int .i64 x] 65)) ab mb rb rm L U xs cs w.heap.size d n x :=
    ⟨h.keep ((Chg.refl _ _).alloc _), by show (w.heap.push _)[w.heap.size]? = _; simp, hw0⟩
  have g1' : (d == 1) = false := by simp [g1]
  have g2' : (d == 2) = false := by simp [g2]
  have g3' : (d == 3) = false := by simp [g3]
  have g4' : (d == 4) = false := by simp [g4]
  clear g1 g2 g3 g4
  go_enter Try.func42, Try.ntmps42
  go_wp2_with fail
  generalize w.alloc (.cells #[.int .i64 d, .int .i64 n, .int .i64 x] 65) = w1 at hbx ⊢
  generalize w.heap.size = bx at hbx ⊢
  obtain ⟨vl, vc, hr⟩ := hbx.p.r
  obtain ⟨al, capl, rfl, hg⟩ := hr.form
  obtain ⟨r0, r1, r2, r3, r4⟩ := hr.cells
  obtain ⟨o0, o1, o2⟩ := hbx.cells
  have hlen := hbx.p.len
  go_quiet ((go_at_call 50; exact Calls.quiet_of_same (refIs_calls _ _ _)))
  have hp0 := hid hbx.p
  have hbx := hbx.drewN nq
  have hr0 := hid hr
  have hr := hr.chg (Chg.drewN (Chg.refl (fun _ => False) w1) nq) (fun h => h) (fun _ _ h => h) (fun _ _ h => h)
  go_wp2_with fail
  go_ret
  exact ⟨_, _, _, by simp, hbx.p⟩

theorem done2_calls {w0 w : World} {ab mb rb rm : Nat} {L U : Int} {xs cs : List Int} (h : ArP w0 w ab mb rb rm L U xs cs) (d n x : Int) :
    Calls Try.prog 42 #[.pointer (some ⟨ab, 0, none⟩), .pointer (some ⟨rb, 0, none⟩), .agg #[.int .i64 d, .int .i64 n, .int .i64 x]] w (BothDid2 w0 ab mb rb rm L) := by
  have hw := h.below.size
  by_cases h1 : d = 1
  · subst h1; exact done2_put h hw n x
  by_cases h2 : d = 2
  · subst h2; exact (done2_at h hw n x).mono fun _ _ ⟨he, hp⟩ => ⟨_, _, _, he, hp⟩
  by_cases h3 : d = 3
  · subst h3; exact done2_set h hw n x
  by_cases h4 : d = 4
  · subst h4; exact done2_cut h hw n x
  exact done2_other h hw d n x h1 h2 h3 h4

end Go.Proofs.Ytgbjjceicpmopaa
