/-
  What the functions of package arena do to a world, for things of type int: each by a contract.
-/
import Derived.Test.YtgbjjceicpmopaaArenaBase
import Derived.Deep.RegionLaw
namespace Go.Proofs.Ytgbjjceicpmopaa
open Go.RowKit

/-- An arena in block b, of the meter in block mb, whose things lie in the row v. -/
structure ArIntAt (w : World) (B b mb : Nat) (v : Value) (l : List (Value × Int)) : Prop where
  blk : w.heap[b]? = some (.cells #[.pointer (some ⟨mb, 0, none⟩), v, .int .i64 (cost l)] 79 (0, 0))
  own : w.ownsRow B 81 2 v l.length (flat l)
  pos : Costs l
  kind : ∀ p ∈ l, ∃ x, p.1 = .int .i64 x

theorem ArIntAt.cells {w : World} {B b mb : Nat} {v : Value} {l : List (Value × Int)} (h : ArIntAt w B b mb v l) :
    w.cell? ⟨b, 0, none⟩ = some (.pointer (some ⟨mb, 0, none⟩)) ∧ w.cell? ⟨b, 1, none⟩ = some v ∧ w.cell? ⟨b, 2, none⟩ = some (.int .i64 (cost l)) ∧
    w.frozen? ⟨b, 1, none⟩ = false ∧ w.frozen? ⟨b, 2, none⟩ = false := by
  have := h.blk
  simp [World.cell?, World.frozen?, this]
theorem ArIntAt.lt {w : World} {B b mb : Nat} {v : Value} {l : List (Value × Int)} (h : ArIntAt w B b mb v l) : b < w.heap.size := lt_of_block h.blk
theorem ArIntAt.rowLt {w : World} {B b mb : Nat} {v : Value} {l : List (Value × Int)} (h : ArIntAt w B b mb v l) {g : Nat} (hg : v.ownBlock = some g) : B ≤ g ∧ g < w.heap.size := h.own.lt g hg
/-- The row's block is none of another type. -/
theorem ArIntAt.ne {w : World} {B b mb : Nat} {v : Value} {l : List (Value × Int)} (h : ArIntAt w B b mb v l) {k : Nat} {c : Array Value} {t : TypeId} {f : Nat × Nat} (hk : w.heap[k]? = some (.cells c t f)) (ht : t ≠ 81) : v.ownBlock ≠ some k := by
  intro e
  rcases h.own.2 with ⟨rfl, _⟩ | ⟨g, cap, cur, rfl, _, hg, _⟩
  · simp [Value.ownBlock] at e
  · simp [Value.ownBlock] at e
    subst e
    rw [hg] at hk
    simp at hk
    exact ht hk.2.1.symm
theorem ArIntAt.chg {S : Nat → Prop} {w w' : World} {B b mb : Nat} {v : Value} {l : List (Value × Int)} (h : ArIntAt w B b mb v l) (hc : Chg S w w') (hb : ¬ S b) (hs : ∀ k, v.ownBlock = some k → ¬ S k) : ArIntAt w' B b mb v l :=
  ⟨(hc.block b h.lt hb).trans h.blk, ownsRow_chg h.own hc hs, h.pos, h.kind⟩
theorem ArIntAt.len_le {w : World} {B b mb : Nat} {v : Value} {l : List (Value × Int)} (h : ArIntAt w B b mb v l) : (l.length : Int) ≤ cost l := h.pos.le
/-- The row's value. -/
theorem ArIntAt.val {w : World} {B b mb : Nat} {v : Value} {l : List (Value × Int)} (h : ArIntAt w B b mb v l) :
    (v = .slice none 0 0 ∧ l = []) ∨ ∃ g cap, v = .slice (some ⟨g, 0, none⟩) l.length cap ∧ l.length ≤ cap ∧ cap ≤ maxLen := by
  rcases h.own.2 with ⟨rfl, h0⟩ | ⟨g, cap, cur, rfl, _, _, h1, h2, _⟩
  · exact .inl ⟨rfl, List.eq_nil_of_length_eq_zero h0⟩
  · exact .inr ⟨g, cap, rfl, h1, h2⟩
theorem ArIntAt.at {w : World} {B b mb g cap : Nat} {l : List (Value × Int)} (h : ArIntAt w B b mb (.slice (some ⟨g, 0, none⟩) l.length cap) l) {i : Nat} (hi : i < l.length) :
    w.cell? ⟨g, i * 2, none⟩ = some l[i].1 ∧ w.cell? ⟨g, i * 2 + 1, none⟩ = some (.int .i64 l[i].2) ∧ w.frozen? ⟨g, i * 2, none⟩ = false := by
  have h0 := h.own.cellAt (i * 2) (by omega)
  have h1 := h.own.cellAt (i * 2 + 1) (by omega)
  rw [flat_get0] at h0
  rw [flat_get1] at h1
  exact ⟨by simpa [hi] using h0, by simpa [hi] using h1, h.own.frozenAt _⟩

theorem infoInt : (Try.prog.info? 81).map (fun i => (i.zero, i.size, i.bytes)) = some (some (.agg #[.int .i64 0, .int .i64 0]), 2, 16) := by kernel_rfl

/-- What New leaves. -/
def ArIntNew (w : World) (mb : Nat) (e : Ending) (w' : World) : Prop :=
  e = .returned (.pointer (some ⟨w.heap.size, 0, none⟩)) ∧ (∀ B, ArIntAt w' B w.heap.size mb (.slice none 0 0) []) ∧ Chg (fun _ => False) w w' ∧ w.heap.size < w'.heap.size
set_option maxHeartbeats 400000 in
theorem arIntNew_calls (w : World) (mb : Nat) : Calls Try.prog 35 #[.pointer (some ⟨mb, 0, none⟩)] w (ArIntNew w mb) := by
  go_enter Try.func35, Try.ntmps35
  go_wp2
  go_ret
  exact ⟨rfl, fun B => ⟨by show (w.heap.push _)[w.heap.size]? = _; simp, World.ownsRow_nil _ _ _ _, Costs.nil, fun _ h => by cases h⟩, (Chg.refl _ _).alloc _, by simp⟩

set_option maxHeartbeats 400000 in
theorem arIntLen_calls {w : World} {B b mb : Nat} {v : Value} {l : List (Value × Int)} (h : ArIntAt w B b mb v l) :
    Calls Try.prog 37 #[.pointer (some ⟨b, 0, none⟩)] w fun e w' => e = .returned (.int .i64 l.length) ∧ w = w' := by
  obtain ⟨c0, c1, c2, f1, f2⟩ := h.cells
  rcases h.val with ⟨rfl, rfl⟩ | ⟨g, cap, rfl, _, _⟩
  all_goals
    clear h
    go_enter Try.func37, Try.ntmps37
    go_wp2
    go_ret
    exact ⟨rfl, rfl⟩

set_option maxHeartbeats 400000 in
theorem arIntCells_calls {w : World} {B b mb : Nat} {v : Value} {l : List (Value × Int)} (h : ArIntAt w B b mb v l) :
    Calls Try.prog 38 #[.pointer (some ⟨b, 0, none⟩)] w fun e w' => e = .returned (.int .i64 (cost l)) ∧ w = w' := by
  obtain ⟨c0, c1, c2, f1, f2⟩ := h.cells
  clear h
  go_enter Try.func38, Try.ntmps38
  go_wp2
  go_ret
  exact ⟨rfl, rfl⟩

/-- Is there such a number? -/
def isIn (n : Nat) (i : Int) : Bool := decide (0 ≤ i ∧ i < n)
theorem isIn_yes {n : Nat} {i : Int} (h : 0 ≤ i ∧ i < n) : isIn n i = true := decide_eq_true h
theorem isIn_no {n : Nat} {i : Int} (h : ¬ (0 ≤ i ∧ i < n)) : isIn n i = false := decide_eq_false h

set_option maxHeartbeats 400000 in
theorem arIntIs_calls {w : World} {B b mb : Nat} {v : Value} {l : List (Value × Int)} (h : ArIntAt w B b mb v l) (i : Int) :
    Calls Try.prog 49 #[.pointer (some ⟨b, 0, none⟩), .int .i64 i] w fun e w' => e = .returned (.bool (isIn l.length i)) ∧ w = w' := by
  obtain ⟨c0, c1, c2, f1, f2⟩ := h.cells
  obtain ⟨a, cap, rfl⟩ : ∃ a cap, v = .slice a l.length cap := by
    rcases h.val with ⟨rfl, rfl⟩ | ⟨g, cap, rfl, _, _⟩
    · exact ⟨none, 0, rfl⟩
    · exact ⟨_, _, rfl⟩
  clear h
  by_cases h0 : 0 ≤ i
  · by_cases h1 : i < l.length
    · rw [isIn_yes ⟨h0, h1⟩]
      go_enter Try.func49, Try.ntmps49
      go_wp2
      go_ret
      exact ⟨by simp, rfl⟩
    · rw [isIn_no (by omega)]
      go_enter Try.func49, Try.ntmps49
      go_wp2
      go_ret
      exact ⟨by simp, rfl⟩
  · rw [isIn_no (by omega)]
    go_enter Try.func49, Try.ntmps49
    go_wp2
    go_ret
    exact ⟨by simp, rfl⟩

/-- The thing of a number, or the zero one. -/
def arIntVal (l : List (Value × Int)) (i : Int) : Value := if 0 ≤ i ∧ i < l.length then ((l[i.toNat]?).map (·.1)).getD (.int .i64 0) else (.int .i64 0)

set_option maxHeartbeats 1000000 in
theorem arIntAt_calls {w : World} {B b mb : Nat} {v : Value} {l : List (Value × Int)} (h : ArIntAt w B b mb v l) (i : Int) :
    Calls Try.prog 41 #[.pointer (some ⟨b, 0, none⟩), .int .i64 i] w fun e w' => e = .returned (.tuple #[arIntVal l i, .bool (isIn l.length i)]) ∧ w = w' := by
  obtain ⟨c0, c1, c2, f1, f2⟩ := h.cells
  by_cases hi : 0 ≤ i ∧ i < l.length
  · obtain ⟨h0, h1⟩ := hi
    obtain ⟨k, rfl⟩ := Int.eq_ofNat_of_zero_le h0
    have hk : k < l.length := by omega
    have hv : arIntVal l (k : Int) = l[k].1 := by unfold arIntVal; rw [if_pos (by omega)]; simp [hk]
    have hI := isIn_yes ⟨h0, h1⟩
    have H := hid h
    rcases h.val with ⟨rfl, rfl⟩ | ⟨g, cap, rfl, _, _⟩
    · simp at hk
    obtain ⟨d0, d1, d2⟩ := h.at hk
    clear h
    rw [hv]
    clear hv
    generalize l[k].1 = y at *
    go_enter Try.func41, Try.ntmps41
    go_wp2_with fail
    refine (arIntIs_calls H.out _).mono ?_
    rintro e w' ⟨rfl, rfl⟩
    rw [hI]
    go_wp2_with fail
    go_ret2
    exact ⟨by rw [hI]; rfl, rfl⟩
  · have hI := isIn_no hi
    have hv : arIntVal l i = .int .i64 0 := if_neg hi
    have H := hid h
    clear h hi
    rw [hv]
    clear hv
    go_enter Try.func41, Try.ntmps41
    go_wp2_with fail
    refine (arIntIs_calls H.out _).mono ?_
    rintro e w' ⟨rfl, rfl⟩
    rw [hI]
    go_wp2_with fail
    go_ret2
    exact ⟨by rw [hI]; rfl, rfl⟩

/-- What Set leaves. -/
def ArIntSet (w : World) (B b mb : Nat) (v : Value) (l : List (Value × Int)) (i : Int) (x : Value) (e : Ending) (w' : World) : Prop :=
  e = .returned (.bool (isIn l.length i)) ∧ ArIntAt w' B b mb v (if isIn l.length i then l.modify i.toNat fun p => (x, p.2) else l) ∧ Chg (fun k => v.ownBlock = some k) w w'

set_option maxHeartbeats 1000000 in
theorem arIntSet_calls {w : World} {B b mb : Nat} {v : Value} {l : List (Value × Int)} (h : ArIntAt w B b mb v l) (i : Int) (x : Int) :
    Calls Try.prog 40 #[.pointer (some ⟨b, 0, none⟩), .int .i64 i, .int .i64 x] w (ArIntSet w B b mb v l i (.int .i64 x)) := by
  obtain ⟨c0, c1, c2, f1, f2⟩ := h.cells
  by_cases hi : 0 ≤ i ∧ i < l.length
  · obtain ⟨h0, h1⟩ := hi
    obtain ⟨k, rfl⟩ := Int.eq_ofNat_of_zero_le h0
    have hk : k < l.length := by omega
    have hI := isIn_yes ⟨h0, h1⟩
    have H := hid h
    rcases h.val with ⟨rfl, rfl⟩ | ⟨g, cap, rfl, _, _⟩
    · simp at hk
    obtain ⟨d0, d1, d2⟩ := h.at hk
    have hne := h.ne h.blk (by decide)
    clear h
    generalize l[k].1 = y at *
    go_enter Try.func40, Try.ntmps40
    go_wp2_with fail
    refine (arIntIs_calls H.out _).mono ?_
    rintro e w' ⟨rfl, rfl⟩
    rw [hI]
    go_wp2_with fail
    go_ret
    have hs := H.out.own.stored (k * 2) (.int .i64 x)
    refine ⟨by rw [hI]; rfl, ?_, (grownBy_chg hs.2).mono (fun k h => by simp [Value.ownBlock] at h ⊢; exact h.symm)⟩
    rw [hI, if_pos rfl]
    refine ⟨?_, ?_, H.out.pos.modify _ _, kind_modify (P := fun y => ∃ x, y = .int .i64 x) H.out.kind _ ⟨_, rfl⟩⟩
    · rw [cost_modify]
      refine (hs.2.block b H.out.lt (fun e => hne ?_)).trans H.out.blk
      rw [e]; rfl
    · have := hs.1
      rw [flat_set] at this
      simpa using this
  · have hI := isIn_no hi
    have H := hid h
    clear h hi
    go_enter Try.func40, Try.ntmps40
    go_wp2_with fail
    refine (arIntIs_calls H.out _).mono ?_
    rintro e w' ⟨rfl, rfl⟩
    rw [hI]
    go_wp2_with fail
    go_ret
    refine ⟨by rw [hI]; rfl, ?_, Chg.refl _ _⟩
    rw [hI]
    exact H.out

end Go.Proofs.Ytgbjjceicpmopaa
