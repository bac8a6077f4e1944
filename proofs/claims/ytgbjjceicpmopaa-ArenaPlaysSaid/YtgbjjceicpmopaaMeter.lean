/-
  What the functions of package meter do to a world: each by a contract.
-/
import Derived.Test.YtgbjjceicpmopaaRows
import Derived.WalkKit
import Derived.WalkSpells
import Derived.WalkLawsBesides
import Derived.Deep.QuietTactic
import Derived.BigQuiet
namespace Go.Proofs.Ytgbjjceicpmopaa
open Go.RowKit

theorem hid {p : Prop} (h : p) : Hid p := h

def held (n : Int) : Int := if n < 0 then 0 else if 1099511627776 < n then 1099511627776 else n

theorem held_bd (n : Int) : 0 ≤ held n ∧ held n ≤ 1099511627776 := by unfold held; split <;> (try split) <;> omega
theorem ret_i64 {a b : Int} (h : a = b) : Ending.returned (.int .i64 a) = .returned (.int .i64 b) := by rw [h]

set_option maxHeartbeats 400000 in
theorem held_calls (a : Int) (w : World) :
    Calls Try.prog 44 #[.int .i64 a] w fun e w' => e = .returned (.int .i64 (held a)) ∧ w = w' := by
  go_enter Try.func44, Try.ntmps44
  go_wp2
  all_goals go_ret
  all_goals exact ⟨ret_i64 (by unfold held; split at * <;> (repeat' split) <;> omega), rfl⟩

set_option maxHeartbeats 400000 in
theorem refHeld_calls (a : Int) (w : World) :
    Calls Try.prog 17 #[.int .i64 a] w fun e w' => e = .returned (.int .i64 (held a)) ∧ w = w' := by
  go_enter Try.func17, Try.ntmps17
  go_wp2
  all_goals go_ret
  all_goals exact ⟨ret_i64 (by unfold held; (repeat' split) <;> omega), rfl⟩

def add (a b : Int) : Int := held (held a + held b)
def mul (a b : Int) : Int := held (held a * held b)

set_option maxHeartbeats 400000 in
theorem add_calls (a b : Int) (w : World) :
    Calls Try.prog 22 #[.int .i64 a, .int .i64 b] w fun e w' => e = .returned (.int .i64 (add a b)) ∧ w = w' := by
  have ha := held_bd a
  have hb := held_bd b
  go_enter Try.func22, Try.ntmps22
  go_wp2_with (go_at_call 44; refine (held_calls _ _).mono ?_; rintro e w' ⟨rfl, rfl⟩)
  go_ret
  exact ⟨rfl, rfl⟩

set_option maxHeartbeats 400000 in
theorem refAdd_calls (a b : Int) (w : World) :
    Calls Try.prog 23 #[.int .i64 a, .int .i64 b] w fun e w' => e = .returned (.int .i64 (add a b)) ∧ w = w' := by
  have ha := held_bd a
  have hb := held_bd b
  go_enter Try.func23, Try.ntmps23
  go_wp2_with (go_at_call 17; refine (refHeld_calls _ _).mono ?_; rintro e w' ⟨rfl, rfl⟩)
  go_ret
  exact ⟨rfl, rfl⟩

theorem held_le {n : Int} (h : n ≤ 1099511627776) : held n ≤ 1099511627776 ∧ (0 ≤ n → held n = n) := by unfold held; constructor; (repeat' split) <;> omega; intro h0; (repeat' split) <;> omega
theorem held_id {n : Int} (h0 : 0 ≤ n) (h : n ≤ 1099511627776) : held n = n := (held_le h).2 h0
theorem held_hi {n : Int} (h : 1099511627776 ≤ n) : held n = 1099511627776 := by unfold held; (repeat' split) <;> omega
theorem held_held (n : Int) : held (held n) = held n := held_id (held_bd n).1 (held_bd n).2

set_option maxHeartbeats 400000 in
theorem mul_calls (a b : Int) (w : World) :
    Calls Try.prog 24 #[.int .i64 a, .int .i64 b] w fun e w' => e = .returned (.int .i64 (mul a b)) ∧ w = w' := by
  have ha := held_bd a
  have hb := held_bd b
  by_cases h0 : held a = 0
  · have e : mul a b = 0 := by unfold mul; rw [h0]; simp [held]
    have E := hid e
    clear e
    have H0 := hid h0
    clear h0
    go_enter Try.func24, Try.ntmps24
    have h1 : (held a != 0) = false := by simp [H0.out]
    go_wp2_with (go_at_call 44; refine (held_calls _ _).mono ?_; rintro e w' ⟨rfl, rfl⟩)
    all_goals go_ret
    all_goals exact ⟨ret_i64 (by rw [E.out, H0.out]; simp [wrap64]), rfl⟩
  · have h1 : (held a != 0) = true := by simp [h0]
    have hp : 0 < held a := by omega
    by_cases h2 : 1099511627776 / held a < held b
    · have e : mul a b = 1099511627776 := by
        unfold mul
        refine held_hi ?_
        have h3 : 1099511627776 < held b * held a := (Int.ediv_lt_iff_lt_mul hp).1 h2
        rw [Int.mul_comm]; omega
      have E := hid e
      clear e h0
      go_enter Try.func24, Try.ntmps24
      go_wp2_with (go_at_call 44; refine (held_calls _ _).mono ?_; rintro e w' ⟨rfl, rfl⟩)
      all_goals go_ret
      all_goals exact ⟨ret_i64 E.out.symm, rfl⟩
    · have h4 : 0 ≤ held a * held b := Int.mul_nonneg ha.1 hb.1
      have h5 : held a * held b ≤ 1099511627776 := by
        have h3 : ¬ 1099511627776 < held b * held a := fun h => h2 ((Int.ediv_lt_iff_lt_mul hp).2 h)
        rw [Int.mul_comm]; omega
      have e : mul a b = held a * held b := held_id h4 h5
      have E := hid e
      clear e h0
      go_enter Try.func24, Try.ntmps24
      go_wp2_with (go_at_call 44; refine (held_calls _ _).mono ?_; rintro e w' ⟨rfl, rfl⟩)
      all_goals go_ret
      all_goals exact ⟨ret_i64 E.out.symm, rfl⟩

theorem twice {x : Int} (h : 0 ≤ x) : held (held x + held x) = held (2 * x) := by unfold held; (repeat' split) <;> omega
theorem twice_add {x a : Int} (h : 0 ≤ x) (ha : 0 ≤ a) : held (held (2 * x) + a) = held (2 * x + a) := by unfold held; (repeat' split) <;> omega
theorem half_step (b : Int) (k : Nat) : b / 2 ^ (k + 1) = b / 2 ^ k / 2 := by
  rw [Int.pow_succ, Int.ediv_ediv_of_nonneg (Int.le_of_lt (Int.pow_pos (by decide)))]
theorem bit_step (a b : Int) (k : Nat) : a * (b / 2 ^ k) = 2 * (a * (b / 2 ^ (k + 1))) + a * (b / 2 ^ k % 2) := by
  rw [half_step]
  have h := Int.mul_ediv_add_emod (b / 2 ^ k) 2
  have : a * (b / 2 ^ k) = a * (2 * (b / 2 ^ k / 2) + b / 2 ^ k % 2) := by rw [h]
  rw [this, Int.mul_add, ← Int.mul_assoc, ← Int.mul_assoc, Int.mul_comm a 2]

theorem ref_step_one {a b : Int} (k : Nat) (ha : 0 ≤ a) (hb : 0 ≤ b) (hk : 0 < k) (h : (b / 2 ^ (k - 1) % 2 == 1) = true) :
    held (held (held (a * (b / 2 ^ k)) + held (a * (b / 2 ^ k))) + a) = held (a * (b / 2 ^ (k - 1))) := by
  obtain ⟨m, rfl⟩ : ∃ m, k = m + 1 := ⟨k - 1, by omega⟩
  have hb2 : 0 ≤ b / 2 ^ (m + 1) := Int.ediv_nonneg hb (Int.le_of_lt (Int.pow_pos (by decide)))
  have hx : 0 ≤ a * (b / 2 ^ (m + 1)) := Int.mul_nonneg ha hb2
  have h1 : b / 2 ^ m % 2 = 1 := by simpa using h
  rw [twice hx, twice_add hx ha, Nat.add_sub_cancel, bit_step a b m, h1, Int.mul_one]
theorem ref_step_zero {a b : Int} (k : Nat) (ha : 0 ≤ a) (hb : 0 ≤ b) (hk : 0 < k) (h : (b / 2 ^ (k - 1) % 2 == 1) = false) :
    held (held (a * (b / 2 ^ k)) + held (a * (b / 2 ^ k))) = held (a * (b / 2 ^ (k - 1))) := by
  obtain ⟨m, rfl⟩ : ∃ m, k = m + 1 := ⟨k - 1, by omega⟩
  have hb2 : 0 ≤ b / 2 ^ (m + 1) := Int.ediv_nonneg hb (Int.le_of_lt (Int.pow_pos (by decide)))
  have hx : 0 ≤ a * (b / 2 ^ (m + 1)) := Int.mul_nonneg ha hb2
  have h1 : b / 2 ^ m % 2 = 0 := by have := (beq_eq_false_iff_ne.1 h); rw [Nat.add_sub_cancel] at this; omega
  rw [twice hx, Nat.add_sub_cancel, bit_step a b m, h1, Int.mul_zero, Int.add_zero]

set_option maxHeartbeats 400000 in
theorem refMul_calls (a b : Int) (w : World) :
    Calls Try.prog 25 #[.int .i64 a, .int .i64 b] w fun e w' => e = .returned (.int .i64 (mul a b)) ∧ w = w' := by
  have ha := held_bd a
  have hb := held_bd b
  have e0 : held (held a * (held b / 2 ^ 41)) = 0 := by
    have : held b / 2 ^ 41 = 0 := Int.ediv_eq_zero_of_lt hb.1 (by omega)
    rw [this]; simp [held]
  have E0 := hid e0
  clear e0
  go_enter Try.func25, Try.ntmps25
  go_wp2_with (go_at_call 17; refine (refHeld_calls _ _).mono ?_; rintro e w' ⟨rfl, rfl⟩)
  go_loop [5, 6] (fun o i => ∃ k : Nat, k ≤ 41 ∧ i = .int .i64 ((k : Int) - 1) ∧ o = .int .i64 (held (held a * (held b / 2 ^ k)))) (fun _ i => (intOf i + 1).toNat)
  case atStart => exact ⟨41, by omega, by go_num, by rw [E0.out]⟩
  case round =>
    obtain ⟨k, hk, rfl, rfl⟩ := hrel
    have h1 := held_bd (held a * (held b / 2 ^ k))
    have h2 : 0 ≤ held b / 2 ^ (k - 1) := Int.ediv_nonneg hb.1 (Int.le_of_lt (Int.pow_pos (by decide)))
    have h3 := held_bd (held (held a * (held b / 2 ^ k)) + held (held a * (held b / 2 ^ k)))
    go_wp2_with (go_at_call 17; refine (refHeld_calls _ _).mono ?_; rintro e w' ⟨rfl, rfl⟩)
    · have hm := ref_step_one k ha.1 hb.1 (by omega) (by assumption)
      refine ⟨⟨k - 1, by omega, by rw [Int.ofNat_sub (by omega)]; rfl, by rw [hm]⟩, by simp [intOf]; omega⟩
    · have hm := ref_step_zero k ha.1 hb.1 (by omega) (by assumption)
      refine ⟨⟨k - 1, by omega, by rw [Int.ofNat_sub (by omega)]; rfl, by rw [hm]⟩, by simp [intOf]; omega⟩
    · have hk0 : k = 0 := by omega
      subst hk0
      go_ret
      exact ⟨ret_i64 (by unfold mul; simp), rfl⟩

/-- A meter lies alone in a block of its own. -/
def MeterAt (w : World) (b : Nat) (L U M : Int) : Prop := w.heap[b]? = some (.cells #[.int .i64 L, .int .i64 U, .int .i64 M] 70 (0, 0))

theorem MeterAt.cells {w : World} {b : Nat} {L U M : Int} (h : MeterAt w b L U M) :
    w.cell? ⟨b, 0, none⟩ = some (.int .i64 L) ∧ w.cell? ⟨b, 1, none⟩ = some (.int .i64 U) ∧ w.cell? ⟨b, 2, none⟩ = some (.int .i64 M) ∧
    w.frozen? ⟨b, 0, none⟩ = false ∧ w.frozen? ⟨b, 1, none⟩ = false ∧ w.frozen? ⟨b, 2, none⟩ = false := by
  unfold MeterAt at h
  simp [World.cell?, World.frozen?, h]

set_option maxHeartbeats 400000 in
theorem used_calls {w : World} {b : Nat} {L U M : Int} (h : MeterAt w b L U M) :
    Calls Try.prog 19 #[.pointer (some ⟨b, 0, none⟩)] w fun e w' => e = .returned (.int .i64 U) ∧ w = w' := by
  obtain ⟨c0, c1, c2, f0, f1, f2⟩ := h.cells
  clear h
  go_enter Try.func19, Try.ntmps19
  go_wp2
  go_ret
  exact ⟨rfl, rfl⟩

set_option maxHeartbeats 400000 in
theorem most_calls {w : World} {b : Nat} {L U M : Int} (h : MeterAt w b L U M) :
    Calls Try.prog 21 #[.pointer (some ⟨b, 0, none⟩)] w fun e w' => e = .returned (.int .i64 M) ∧ w = w' := by
  obtain ⟨c0, c1, c2, f0, f1, f2⟩ := h.cells
  clear h
  go_enter Try.func21, Try.ntmps21
  go_wp2
  go_ret
  exact ⟨rfl, rfl⟩

set_option maxHeartbeats 400000 in
theorem left_calls {w : World} {b : Nat} {L U M : Int} (h : MeterAt w b L U M) (h0 : 0 ≤ U ∧ U ≤ L ∧ L ≤ 1099511627776) :
    Calls Try.prog 20 #[.pointer (some ⟨b, 0, none⟩)] w fun e w' => e = .returned (.int .i64 (L - U)) ∧ ∃ n, w.drewN n = w' := by
  obtain ⟨c0, c1, c2, f0, f1, f2⟩ := h.cells
  clear h
  go_enter Try.func20, Try.ntmps20
  go_wp2
  go_quiet (fail)
  go_wp2
  go_ret
  exact ⟨rfl, _, rfl⟩

set_option maxHeartbeats 400000 in
theorem new_calls (a : Int) (w : World) :
    Calls Try.prog 16 #[.int .i64 a] w fun e w' => e = .returned (.pointer (some ⟨w.heap.size, 0, none⟩)) ∧ w.alloc (.cells #[.int .i64 (held a), .int .i64 0, .int .i64 0] 70) = w' := by
  go_enter Try.func16, Try.ntmps16
  go_wp2_with (go_at_call 44; refine (held_calls _ _).mono ?_; rintro e w' ⟨rfl, rfl⟩)
  go_ret
  exact ⟨rfl, rfl⟩

set_option maxHeartbeats 400000 in
theorem reset_calls {w : World} {b : Nat} {L U M : Int} (h : MeterAt w b L U M) :
    Calls Try.prog 28 #[.pointer (some ⟨b, 0, none⟩)] w fun e w' => e = .returned (.int .i64 U) ∧ w.setCell ⟨b, 1, none⟩ (.int .i64 0) = w' := by
  obtain ⟨c0, c1, c2, f0, f1, f2⟩ := h.cells
  clear h
  go_enter Try.func28, Try.ntmps28
  go_wp2
  go_ret
  exact ⟨rfl, rfl⟩

/-- Blocks outside S are as they were; blocks may have come. -/
structure Chg (S : Nat → Prop) (w w' : World) : Prop where
  os : w'.os = w.os
  tape : w'.tape = w.tape
  output : w'.output = w.output
  size : w.heap.size ≤ w'.heap.size
  block : ∀ k, k < w.heap.size → ¬ S k → w'.heap[k]? = w.heap[k]?

theorem Chg.refl (S : Nat → Prop) (w : World) : Chg S w w := ⟨rfl, rfl, rfl, Nat.le_refl _, fun _ _ _ => rfl⟩
theorem Chg.trans {S : Nat → Prop} {a b c : World} (h : Chg S a b) (k : Chg S b c) : Chg S a c :=
  ⟨k.os.trans h.os, k.tape.trans h.tape, k.output.trans h.output, Nat.le_trans h.size k.size, fun i hi hs => (k.block i (Nat.lt_of_lt_of_le hi h.size) hs).trans (h.block i hi hs)⟩
theorem Chg.mono {S T : Nat → Prop} {w w' : World} (h : Chg S w w') (hs : ∀ k, S k → T k) : Chg T w w' := ⟨h.os, h.tape, h.output, h.size, fun k hk ht => h.block k hk (fun s => ht (hs k s))⟩
theorem Chg.below {S : Nat → Prop} {w w' : World} {B : Nat} (h : Chg S w w') (hB : B ≤ w.heap.size) (hs : ∀ k, S k → B ≤ k) : Below B w w' :=
  ⟨h.os, h.tape, h.output, h.size, fun k hk => h.block k (by omega) (fun s => by have := hs k s; omega)⟩
theorem Chg.drewN {S : Nat → Prop} {a w : World} (h : Chg S a w) (n : Nat) : Chg S a (w.drewN n) := ⟨h.os, h.tape, h.output, h.size, h.block⟩
theorem Chg.drew {S : Nat → Prop} {a w : World} (h : Chg S a w) : Chg S a w.drew := ⟨h.os, h.tape, h.output, h.size, h.block⟩
theorem Chg.setCell {S : Nat → Prop} {a w : World} (h : Chg S a w) {p : Addr} (hp : S p.block ∨ a.heap.size ≤ p.block) (u : Value) : Chg S a (w.setCell p u) :=
  ⟨h.os, h.tape, h.output, by have := h.size; simp [World.setCell]; omega, fun k hk hs => (Below.heap_setCell _ _ _ _ (fun e => by subst e; rcases hp with hp | hp; exact hs hp; omega)).trans (h.block k hk hs)⟩
theorem Chg.alloc {S : Nat → Prop} {a w : World} (h : Chg S a w) (o : Obj) : Chg S a (w.alloc o) :=
  ⟨h.os, h.tape, h.output, by have := h.size; simp; omega, fun k hk hs => (Below.heap_alloc _ _ _ (by have := h.size; omega)).trans (h.block k hk hs)⟩

theorem Chg.setAt {a w : World} {b i : Nat} (h : Chg (· = b) a w) (u : Value) : Chg (· = b) a (w.setCell ⟨b, i, none⟩ u) := h.setCell (.inl rfl) u

theorem MeterAt.lt {w : World} {b : Nat} {L U M : Int} (h : MeterAt w b L U M) : b < w.heap.size := lt_of_block h
theorem MeterAt.drewN {w : World} {b : Nat} {L U M : Int} (h : MeterAt w b L U M) (n : Nat) : MeterAt (w.drewN n) b L U M := h
theorem MeterAt.chg {S : Nat → Prop} {w w' : World} {b : Nat} {L U M : Int} (h : MeterAt w b L U M) (hc : Chg S w w') (hs : ¬ S b) : MeterAt w' b L U M := (hc.block b h.lt hs).trans h
theorem heap_setCell_same {w : World} {b i : Nat} {c : Array Value} {t : TypeId} {f : Nat × Nat} {v : Value} (h : w.heap[b]? = some (.cells c t f)) :
    (w.setCell ⟨b, i, none⟩ v).heap[b]? = some (.cells (c.setIfInBounds i v) t f) := by
  simp only [World.setCell, Array.getElem?_modify, if_true, h, Option.map_some]
  simp
theorem MeterAt.setUsed {w : World} {b : Nat} {L U M : Int} (h : MeterAt w b L U M) (U' : Int) : MeterAt (w.setCell ⟨b, 1, none⟩ (.int .i64 U')) b L U' M := (heap_setCell_same h).trans (by simp)
theorem MeterAt.setMost {w : World} {b : Nat} {L U M : Int} (h : MeterAt w b L U M) (M' : Int) : MeterAt (w.setCell ⟨b, 2, none⟩ (.int .i64 M')) b L U M' := (heap_setCell_same h).trans (by simp)
theorem MeterAt.mk (w : World) (L U M : Int) : MeterAt (w.alloc (.cells #[.int .i64 L, .int .i64 U, .int .i64 M] 70)) w.heap.size L U M := by
  unfold MeterAt; show (w.heap.push _)[w.heap.size]? = _; simp

/-- What a meter says: nothing is below nothing, nothing above the limit. -/
def MOk (L U M : Int) : Prop := 0 ≤ U ∧ U ≤ M ∧ M ≤ L ∧ L ≤ 1099511627776
def takeE (L U n : Int) : Int := if n < 0 then 1 else if L - U < n then 5 else 0
def takeU (L U n : Int) : Int := if n < 0 then U else if L - U < n then U else U + n
def takeM (L U M n : Int) : Int := if n < 0 then M else if L - U < n then M else if M < U + n then U + n else M
def giveE (U n : Int) : Int := if n < 0 ∨ U < n then 1 else 0
def giveU (U n : Int) : Int := if n < 0 ∨ U < n then U else U - n

theorem MOk.take {L U M : Int} (h : MOk L U M) (n : Int) : MOk L (takeU L U n) (takeM L U M n) := by
  unfold MOk takeU takeM at *; (repeat' split) <;> omega
theorem MOk.give {L U M : Int} (h : MOk L U M) (n : Int) : MOk L (giveU U n) M := by
  unfold MOk giveU at *; (repeat' split) <;> omega
theorem MOk.reset {L U M : Int} (h : MOk L U M) : MOk L 0 M := by unfold MOk at *; omega
theorem MOk.new (n : Int) : MOk (held n) 0 0 := by have := held_bd n; unfold MOk; omega

/-- What a call that changes one meter leaves. -/
def Metered (w : World) (b : Nat) (L U M : Int) (r : Int) (e : Ending) (w' : World) : Prop :=
  e = .returned (.int .i64 r) ∧ MeterAt w' b L U M ∧ Chg (· = b) w w'

theorem Metered.same {w : World} {b : Nat} {L U M r : Int} (h : MeterAt w b L U M) : Metered w b L U M r (.returned (.int .i64 r)) w := ⟨rfl, h, Chg.refl _ _⟩

set_option maxHeartbeats 1000000 in
theorem take_calls {w : World} {b : Nat} {L U M : Int} (h : MeterAt w b L U M) (h0 : MOk L U M) (n : Int) :
    Calls Try.prog 26 #[.pointer (some ⟨b, 0, none⟩), .int .i64 n] w (Metered w b L (takeU L U n) (takeM L U M n) (takeE L U n)) := by
  obtain ⟨c0, c1, c2, f0, f1, f2⟩ := h.cells
  obtain ⟨g0, g1, g2, g3⟩ := h0
  have H := hid h
  by_cases h1 : n < 0
  · have e1 : takeU L U n = U := if_pos h1
    have e2 : takeM L U M n = M := if_pos h1
    have e3 : takeE L U n = 1 := if_pos h1
    rw [e1, e2, e3]
    clear e1 e2 e3 h
    go_enter Try.func26, Try.ntmps26
    go_wp2
    go_ret
    exact Metered.same H.out
  · by_cases h2 : L - U < n
    · have e1 : takeU L U n = U := by unfold takeU; rw [if_neg h1, if_pos h2]
      have e2 : takeM L U M n = M := by unfold takeM; rw [if_neg h1, if_pos h2]
      have e3 : takeE L U n = 5 := by unfold takeE; rw [if_neg h1, if_pos h2]
      rw [e1, e2, e3]
      clear e1 e2 e3 h
      go_enter Try.func26, Try.ntmps26
      go_wp2_with (go_at_call 20; refine (left_calls H.out (by omega)).mono ?_; rintro e w' ⟨rfl, q, rfl⟩)
      go_ret
      exact ⟨rfl, H.out, (Chg.refl _ _).drewN _⟩
    · have e1 : takeU L U n = U + n := by unfold takeU; rw [if_neg h1, if_neg h2]
      have e3 : takeE L U n = 0 := by unfold takeE; rw [if_neg h1, if_neg h2]
      rw [e1, e3]
      clear e1 e3 h
      by_cases h3 : M < U + n
      · have e2 : takeM L U M n = U + n := by unfold takeM; rw [if_neg h1, if_neg h2, if_pos h3]
        rw [e2]
        clear e2
        go_enter Try.func26, Try.ntmps26
        go_wp2_with (go_at_call 20; refine (left_calls H.out (by omega)).mono ?_; rintro e w' ⟨rfl, q, rfl⟩)
        go_region
        go_wp2
        go_ret
        exact ⟨rfl, ((H.out.drewN _).setUsed _).setMost _, ((((Chg.refl _ _).drewN _).setAt _).setAt _).drew⟩
      · have e2 : takeM L U M n = M := by unfold takeM; rw [if_neg h1, if_neg h2, if_neg h3]
        rw [e2]
        clear e2
        go_enter Try.func26, Try.ntmps26
        go_wp2_with (go_at_call 20; refine (left_calls H.out (by omega)).mono ?_; rintro e w' ⟨rfl, q, rfl⟩)
        go_region
        go_wp2
        go_ret
        exact ⟨rfl, ((H.out.drewN _).setUsed _).setMost _, ((((Chg.refl _ _).drewN _).setAt _).setAt _).drew⟩

set_option maxHeartbeats 1000000 in
theorem give_calls {w : World} {b : Nat} {L U M : Int} (h : MeterAt w b L U M) (h0 : MOk L U M) (n : Int) :
    Calls Try.prog 27 #[.pointer (some ⟨b, 0, none⟩), .int .i64 n] w (Metered w b L (giveU U n) M (giveE U n)) := by
  obtain ⟨c0, c1, c2, f0, f1, f2⟩ := h.cells
  obtain ⟨g0, g1, g2, g3⟩ := h0
  have H := hid h
  by_cases h1 : n < 0 ∨ U < n
  · have e1 : giveU U n = U := if_pos h1
    have e3 : giveE U n = 1 := if_pos h1
    rw [e1, e3]
    clear e1 e3 h
    go_enter Try.func27, Try.ntmps27
    go_wp2
    all_goals go_ret
    all_goals exact Metered.same H.out
  · have e1 : giveU U n = U - n := if_neg h1
    have e3 : giveE U n = 0 := if_neg h1
    rw [e1, e3]
    clear e1 e3 h
    have h2 : 0 ≤ n := by omega
    have h3 : n ≤ U := by omega
    clear h1
    go_enter Try.func27, Try.ntmps27
    go_wp2
    go_ret
    exact ⟨rfl, H.out.setUsed _, (Chg.refl _ _).setAt _⟩

/-- What New leaves. -/
def NewMeter (w : World) (L : Int) (e : Ending) (w' : World) : Prop :=
  e = .returned (.pointer (some ⟨w.heap.size, 0, none⟩)) ∧ MeterAt w' w.heap.size L 0 0 ∧ Chg (fun _ => False) w w' ∧ w.heap.size < w'.heap.size
theorem newm_calls (a : Int) (w : World) : Calls Try.prog 16 #[.int .i64 a] w (NewMeter w (held a)) :=
  (new_calls a w).mono fun _ _ ⟨he, hw⟩ => ⟨he, hw ▸ MeterAt.mk _ _ _ _, hw ▸ (Chg.refl _ _).alloc _, by rw [← hw]; simp⟩

/-- What a call leaves that only reads. -/
def Reads (w : World) (r : Int) (e : Ending) (w' : World) : Prop := e = .returned (.int .i64 r) ∧ w'.heap = w.heap ∧ Chg (fun _ => False) w w'
theorem left_reads {w : World} {b : Nat} {L U M : Int} (h : MeterAt w b L U M) (h0 : MOk L U M) :
    Calls Try.prog 20 #[.pointer (some ⟨b, 0, none⟩)] w (Reads w (L - U)) :=
  (left_calls h (by unfold MOk at h0; omega)).mono fun _ _ ⟨he, n, hw⟩ => ⟨he, by rw [← hw]; rfl, hw ▸ (Chg.refl _ _).drewN _⟩
theorem reset_metered {w : World} {b : Nat} {L U M : Int} (h : MeterAt w b L U M) :
    Calls Try.prog 28 #[.pointer (some ⟨b, 0, none⟩)] w (Metered w b L 0 M U) :=
  (reset_calls h).mono fun _ _ ⟨he, hw⟩ => ⟨he, hw ▸ h.setUsed 0, hw ▸ (Chg.refl _ _).setAt _⟩
theorem Chg.of_none {S : Nat → Prop} {a b : World} (h : Chg (fun _ => False) a b) : Chg S a b := h.mono (fun _ => False.elim)
/-- What is new, and what is changed of that: so much is below. -/
theorem Chg.belowNew {w w' : World} (h : Chg (fun k => w.heap.size ≤ k) w w') : Below w.heap.size w w' := h.below (Nat.le_refl _) (fun _ h => h)

theorem below_chg {b : Nat} {w w1 w2 : World} (h : Below w.heap.size w w1) (hc : Chg (· = b) w1 w2) (hb : w.heap.size ≤ b) : Below w.heap.size w w2 := h.trans (hc.below h.size (fun k e => by omega))
theorem below_none {w w1 w2 : World} (h : Below w.heap.size w w1) (hc : Chg (fun _ => False) w1 w2) : Below w.heap.size w w2 := h.trans (hc.below h.size (fun _ => False.elim))
theorem _root_.Go.RowKit.Below.drewN {B : Nat} {a w : World} (h : Below B a w) (n : Nat) : Below B a (w.drewN n) := ⟨h.os, h.tape, h.output, h.size, h.block⟩
theorem below_two {b c : Nat} {w w1 w2 : World} (h : Below w.heap.size w w1) (hc : Chg (fun k => k = b ∨ k = c) w1 w2) (hb : w.heap.size ≤ b) (hd : w.heap.size ≤ c) : Below w.heap.size w w2 :=
  h.trans (hc.below h.size (fun k e => by omega))
theorem Chg.cellAt {S : Nat → Prop} {w w' : World} (h : Chg S w w') {b i : Nat} (hb : b < w.heap.size) (hs : ¬ S b) : w'.cell? ⟨b, i, none⟩ = w.cell? ⟨b, i, none⟩ :=
  World.cell?_of_block (w := w) (h.block b hb hs)
theorem Chg.undrew {S : Nat → Prop} {w w' : World} (h : Chg S w.drew w') : Chg S w w' := ⟨h.os, h.tape, h.output, h.size, h.block⟩
theorem Chg.undrewN {S : Nat → Prop} {w w' : World} {n : Nat} (h : Chg S (w.drewN n) w') : Chg S w w' := ⟨h.os, h.tape, h.output, h.size, h.block⟩

end Go.Proofs.Ytgbjjceicpmopaa
