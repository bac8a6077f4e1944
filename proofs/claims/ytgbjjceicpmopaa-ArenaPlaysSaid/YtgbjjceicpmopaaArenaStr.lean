/-
  What the functions of package arena do to a world, for things of type string: each by a contract.
-/
import Derived.Test.YtgbjjceicpmopaaArenaInt
import Derived.Deep.RegionLaw
namespace Go.Proofs.Ytgbjjceicpmopaa
open Go.RowKit

/-- An arena in block b, of the meter in block mb, whose things lie in the row v. -/
structure ArStrAt (w : World) (B b mb : Nat) (v : Value) (l : List (Value × Int)) : Prop where
  blk : w.heap[b]? = some (.cells #[.pointer (some ⟨mb, 0, none⟩), v, .int .i64 (cost l)] 73 (0, 0))
  own : w.ownsRow B 75 2 v l.length (flat l)
  pos : Costs l
  kind : ∀ p ∈ l, ∃ x, p.1 = .string x

theorem ArStrAt.cells {w : World} {B b mb : Nat} {v : Value} {l : List (Value × Int)} (h : ArStrAt w B b mb v l) :
    w.cell? ⟨b, 0, none⟩ = some (.pointer (some ⟨mb, 0, none⟩)) ∧ w.cell? ⟨b, 1, none⟩ = some v ∧ w.cell? ⟨b, 2, none⟩ = some (.int .i64 (cost l)) ∧
    w.frozen? ⟨b, 1, none⟩ = false ∧ w.frozen? ⟨b, 2, none⟩ = false := by
  have := h.blk
  simp [World.cell?, World.frozen?, this]
theorem ArStrAt.lt {w : World} {B b mb : Nat} {v : Value} {l : List (Value × Int)} (h : ArStrAt w B b mb v l) : b < w.heap.size := lt_of_block h.blk
theorem ArStrAt.rowLt {w : World} {B b mb : Nat} {v : Value} {l : List (Value × Int)} (h : ArStrAt w B b mb v l) {g : Nat} (hg : v.ownBlock = some g) : B ≤ g ∧ g < w.heap.size := h.own.lt g hg
/-- The row's block is none of another type. -/
theorem ArStrAt.ne {w : World} {B b mb : Nat} {v : Value} {l : List (Value × Int)} (h : ArStrAt w B b mb v l) {k : Nat} {c : Array Value} {t : TypeId} {f : Nat × Nat} (hk : w.heap[k]? = some (.cells c t f)) (ht : t ≠ 75) : v.ownBlock ≠ some k := by
  intro e
  rcases h.own.2 with ⟨rfl, _⟩ | ⟨g, cap, cur, rfl, _, hg, _⟩
  · simp [Value.ownBlock] at e
  · simp [Value.ownBlock] at e
    subst e
    rw [hg] at hk
    simp at hk
    exact ht hk.2.1.symm
theorem ArStrAt.chg {S : Nat → Prop} {w w' : World} {B b mb : Nat} {v : Value} {l : List (Value × Int)} (h : ArStrAt w B b mb v l) (hc : Chg S w w') (hb : ¬ S b) (hs : ∀ k, v.ownBlock = some k → ¬ S k) : ArStrAt w' B b mb v l :=
  ⟨(hc.block b h.lt hb).trans h.blk, ownsRow_chg h.own hc hs, h.pos, h.kind⟩
theorem ArStrAt.len_le {w : World} {B b mb : Nat} {v : Value} {l : List (Value × Int)} (h : ArStrAt w B b mb v l) : (l.length : Int) ≤ cost l := h.pos.le
/-- The row's value. -/
theorem ArStrAt.val {w : World} {B b mb : Nat} {v : Value} {l : List (Value × Int)} (h : ArStrAt w B b mb v l) :
    (v = .slice none 0 0 ∧ l = []) ∨ ∃ g cap, v = .slice (some ⟨g, 0, none⟩) l.length cap ∧ l.length ≤ cap ∧ cap ≤ maxLen := by
  rcases h.own.2 with ⟨rfl, h0⟩ | ⟨g, cap, cur, rfl, _, _, h1, h2, _⟩
  · exact .inl ⟨rfl, List.eq_nil_of_length_eq_zero h0⟩
  · exact .inr ⟨g, cap, rfl, h1, h2⟩
theorem ArStrAt.at {w : World} {B b mb g cap : Nat} {l : List (Value × Int)} (h : ArStrAt w B b mb (.slice (some ⟨g, 0, none⟩) l.length cap) l) {i : Nat} (hi : i < l.length) :
    w.cell? ⟨g, i * 2, none⟩ = some l[i].1 ∧ w.cell? ⟨g, i * 2 + 1, none⟩ = some (.int .i64 l[i].2) ∧ w.frozen? ⟨g, i * 2, none⟩ = false := by
  have h0 := h.own.cellAt (i * 2) (by omega)
  have h1 := h.own.cellAt (i * 2 + 1) (by omega)
  rw [flat_get0] at h0
  rw [flat_get1] at h1
  exact ⟨by simpa [hi] using h0, by simpa [hi] using h1, h.own.frozenAt _⟩

theorem infoStr : (Try.prog.info? 75).map (fun i => (i.zero, i.size, i.bytes)) = some (some (.agg #[.string { data := #[] }, .int .i64 0]), 2, 24) := by kernel_rfl

/-- What New leaves. -/
def ArStrNew (w : World) (mb : Nat) (e : Ending) (w' : World) : Prop :=
  e = .returned (.pointer (some ⟨w.heap.size, 0, none⟩)) ∧ (∀ B, ArStrAt w' B w.heap.size mb (.slice none 0 0) []) ∧ Chg (fun _ => False) w w' ∧ w.heap.size < w'.heap.size
set_option maxHeartbeats 400000 in
theorem arStrNew_calls (w : World) (mb : Nat) : Calls Try.prog 30 #[.pointer (some ⟨mb, 0, none⟩)] w (ArStrNew w mb) := by
  go_enter Try.func30, Try.ntmps30
  go_wp2
  go_ret
  exact ⟨rfl, fun B => ⟨by show (w.heap.push _)[w.heap.size]? = _; simp, World.ownsRow_nil _ _ _ _, Costs.nil, fun _ h => by cases h⟩, (Chg.refl _ _).alloc _, by simp⟩

set_option maxHeartbeats 400000 in
theorem arStrLen_calls {w : World} {B b mb : Nat} {v : Value} {l : List (Value × Int)} (h : ArStrAt w B b mb v l) :
    Calls Try.prog 34 #[.pointer (some ⟨b, 0, none⟩)] w fun e w' => e = .returned (.int .i64 l.length) ∧ w = w' := by
  obtain ⟨c0, c1, c2, f1, f2⟩ := h.cells
  rcases h.val with ⟨rfl, rfl⟩ | ⟨g, cap, rfl, _, _⟩
  all_goals
    clear h
    go_enter Try.func34, Try.ntmps34
    go_wp2
    go_ret
    exact ⟨rfl, rfl⟩

set_option maxHeartbeats 400000 in
theorem arStrCells_calls {w : World} {B b mb : Nat} {v : Value} {l : List (Value × Int)} (h : ArStrAt w B b mb v l) :
    Calls Try.prog 47 #[.pointer (some ⟨b, 0, none⟩)] w fun e w' => e = .returned (.int .i64 (cost l)) ∧ w = w' := by
  obtain ⟨c0, c1, c2, f1, f2⟩ := h.cells
  clear h
  go_enter Try.func47, Try.ntmps47
  go_wp2
  go_ret
  exact ⟨rfl, rfl⟩

set_option maxHeartbeats 400000 in
theorem arStrIs_calls {w : World} {B b mb : Nat} {v : Value} {l : List (Value × Int)} (h : ArStrAt w B b mb v l) (i : Int) :
    Calls Try.prog 48 #[.pointer (some ⟨b, 0, none⟩), .int .i64 i] w fun e w' => e = .returned (.bool (isIn l.length i)) ∧ w = w' := by
  obtain ⟨c0, c1, c2, f1, f2⟩ := h.cells
  obtain ⟨a, cap, rfl⟩ : ∃ a cap, v = .slice a l.length cap := by
    rcases h.val with ⟨rfl, rfl⟩ | ⟨g, cap, rfl, _, _⟩
    · exact ⟨none, 0, rfl⟩
    · exact ⟨_, _, rfl⟩
  clear h
  by_cases h0 : 0 ≤ i
  · by_cases h1 : i < l.length
    · rw [isIn_yes ⟨h0, h1⟩]
      go_enter Try.func48, Try.ntmps48
      go_wp2
      go_ret
      exact ⟨by simp, rfl⟩
    · rw [isIn_no (by omega)]
      go_enter Try.func48, Try.ntmps48
      go_wp2
      go_ret
      exact ⟨by simp, rfl⟩
  · rw [isIn_no (by omega)]
    go_enter Try.func48, Try.ntmps48
    go_wp2
    go_ret
    exact ⟨by simp, rfl⟩

/-- The thing of a number, or the zero one. -/
def arStrVal (l : List (Value × Int)) (i : Int) : Value := if 0 ≤ i ∧ i < l.length then ((l[i.toNat]?).map (·.1)).getD (.string { data := #[] }) else (.string { data := #[] })

set_option maxHeartbeats 1000000 in
theorem arStrAt_calls {w : World} {B b mb : Nat} {v : Value} {l : List (Value × Int)} (h : ArStrAt w B b mb v l) (i : Int) :
    Calls Try.prog 32 #[.pointer (some ⟨b, 0, none⟩), .int .i64 i] w fun e w' => e = .returned (.tuple #[arStrVal l i, .bool (isIn l.length i)]) ∧ w = w' := by
  obtain ⟨c0, c1, c2, f1, f2⟩ := h.cells
  by_cases hi : 0 ≤ i ∧ i < l.length
  · obtain ⟨h0, h1⟩ := hi
    obtain ⟨k, rfl⟩ := Int.eq_ofNat_of_zero_le h0
    have hk : k < l.length := by omega
    have hv : arStrVal l (k : Int) = l[k].1 := by unfold arStrVal; rw [if_pos (by omega)]; simp [hk]
    have hI := isIn_yes ⟨h0, h1⟩
    have H := hid h
    rcases h.val with ⟨rfl, rfl⟩ | ⟨g, cap, rfl, _, _⟩
    · simp at hk
    obtain ⟨d0, d1, d2⟩ := h.at hk
    clear h
    rw [hv]
    clear hv
    generalize l[k].1 = y at *
    go_enter Try.func32, Try.ntmps32
    go_wp2_with fail
    refine (arStrIs_calls H.out _).mono ?_
    rintro e w' ⟨rfl, rfl⟩
    rw [hI]
    go_wp2_with fail
    go_ret2
    exact ⟨by rw [hI]; rfl, rfl⟩
  · have hI := isIn_no hi
    have hv : arStrVal l i = .string { data := #[] } := if_neg hi
    have H := hid h
    clear h hi
    rw [hv]
    clear hv
    go_enter Try.func32, Try.ntmps32
    go_wp2_with fail
    refine (arStrIs_calls H.out _).mono ?_
    rintro e w' ⟨rfl, rfl⟩
    rw [hI]
    go_wp2_with fail
    go_ret2
    exact ⟨by rw [hI]; rfl, rfl⟩

end Go.Proofs.Ytgbjjceicpmopaa
