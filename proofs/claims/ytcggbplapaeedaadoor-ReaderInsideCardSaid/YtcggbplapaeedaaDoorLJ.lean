/-
  A part of the proof of a law: see the text that states it.
-/
import Derived.Test.YtcggbplapaeedaaDoorLI
set_option linter.all false
namespace Go.Am.R.L
open Go Go.Am.Pr
set_option maxRecDepth 100000
theorem textL_len : ∀ (f : Nat) (r : List Int) (out : List Int) (k : Nat) {t : List Int} {m : Nat}, r.length ≤ f → textL out k r = .ok (t, m) → k + 1 ≤ m ∧ m ≤ k + r.length
 | f, [], out, k, t, m, _, h => by simp [textL] at h
 | 0, c :: r, out, k, t, m, hf, h => by simp at hf
 | f + 1, c :: r, out, k, t, m, hf, h => by
  rw [textL_cons] at h
  simp only [List.length_cons] at hf ⊢
  split at h
  ·cases h
  ·split at h
   ·split at h
    ·cases h
    ·split at h
     ·cases h
     ·cases h; omega
   ·split at h
    ·cases r with
     | nil => cases h
     | cons d r =>
      simp only at h
      split at h
      ·cases h
      ·have := textL_len f r _ _ (by simp at hf; omega) h
       simp only [List.length_cons]; omega
    ·have := textL_len f r _ _ (by omega) h
     omega
theorem actL_len : ∀ (r w : List Int) (d : Int) (k : Nat) {t : List Int} {m : Nat}, actL w d k r = .ok (t, m) → k + 1 ≤ m ∧ m ≤ k + r.length
 | [], w, d, k, t, m, h => by simp [actL] at h
 | c :: r, w, d, k, t, m, h => by
  simp only [actL] at h
  simp only [List.length_cons]
  split at h
  ·split at h
   ·cases h
   ·have := actL_len r _ _ _ h; omega
  ·split at h
   ·split at h
    ·have := actL_len r _ _ _ h; omega
    ·split at h
     ·cases h
     ·cases h; omega
   ·have := actL_len r _ _ _ h; omega
theorem clsL_len (f : Nat) : ∀ (sm : Bool) (last : Int) (has : List Bool) (k : Nat) (r : List Int) {t : List Int} {m : Nat}, (∀ c ∈ r, 0 ≤ c ∧ c < 256) → clsL f sm last has k r = .ok (t, m) → k + 1 ≤ m ∧ m ≤ k + r.length := by
 induction f with
 | zero => intro sm last has k r t m _ h; cases h
 | succ f ih =>
  intro sm last has k r t m hr h
  cases r with
  | nil => cases h
  | cons c r =>
   rw [clsL_cons] at h
   simp only [List.length_cons]
   split at h
   ·cases h
   ·split at h
    ·split at h
     ·cases h
     ·cases h; omega
    ·split at h
     ·split at h
      ·cases h
      ·cases r with
       | nil => cases h
       | cons d r =>
        simp only at h
        split at h
        ·cases h
        ·split at h
         ·cases h
         ·cases hx : oneS (d :: r) with
          | none => rw [hx] at h; cases h
          | some q =>
           obtain ⟨y, j⟩ := q
           rw [hx] at h
           simp only at h
           have h2 : ∀ c ∈ d :: r, 0 ≤ c ∧ c < 256 := fun b hb => hr b (List.mem_cons_of_mem _ hb)
           obtain ⟨_, h3, h4, h5⟩ := oneS_byte h2 hx
           split at h
           ·cases h
           ·have := ih _ _ _ _ _ (fun b hb => h2 b (List.mem_of_mem_drop hb)) h
            simp only [List.length_drop] at this
            omega
     ·cases hx : oneS (c :: r) with
      | none => rw [hx] at h; cases h
      | some q =>
       obtain ⟨y, j⟩ := q
       rw [hx] at h
       simp only at h
       obtain ⟨_, h3, h4, h5⟩ := oneS_byte hr hx
       have := ih _ _ _ _ _ (fun b hb => hr b (List.mem_of_mem_drop hb)) h
       simp only [List.length_drop, List.length_cons] at this h5
       omega
end Go.Am.R.L
