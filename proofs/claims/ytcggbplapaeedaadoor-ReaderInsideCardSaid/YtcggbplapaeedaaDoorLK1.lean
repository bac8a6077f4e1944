/-
  A part of the proof of a law: see the text that states it.
-/
import Derived.Test.YtcggbplapaeedaaDoorLJ
set_option linter.all false
namespace Go.Am.R.L
open Go Go.Am.Pr
set_option maxRecDepth 100000
theorem tokOf_ok {kd : Int} {o : Res} {kind : Int} {t : List Int} {m : Nat} {ok : Bool} (h : tokOf kd o = .ok (kind, t, m, ok)) : kind = kd ∧ ok = true ∧ o = .ok (t, m) := by
 match o, h with
 | .ok (a, b), h => cases h; exact ⟨rfl, rfl, rfl⟩
theorem wordK_ok {x t : List Int} {m : Nat} (h : wordK x = .ok (t, m)) : ∃ g, g ≤ x.tail.length ∧ m = 1 + g ∧ t = x.tail.take g ∧ t ∈ wordsL := by
 have hg : (if x.tail.head? = some 37 then 1 else runK lowerK x.tail) ≤ x.tail.length := by
  have hrl := runK_le lowerK x.tail
  split
  ·rename_i h6
   cases hx : x.tail with
   | nil => rw [hx] at h6; cases h6
   | cons d r => simp
  ·exact hrl
 unfold wordK at h
 generalize (if x.tail.head? = some 37 then 1 else runK lowerK x.tail) = g at h hg
 dsimp only at h
 by_cases h7 : x.tail.take g ∈ wordsL
 ·rw [if_pos h7] at h; cases h; exact ⟨g, hg, rfl, rfl, h7⟩
 ·rw [if_neg h7] at h; cases h
theorem tokK_len {r : List Int} (hr : ∀ c ∈ r, 0 ≤ c ∧ c < 256) {kind : Int} {t : List Int} {m : Nat} {ok : Bool} (h : tokK r = .ok (kind, t, m, ok)) : 1 ≤ m ∧ m ≤ r.length := by
 cases r with
 | nil => cases h
 | cons c r =>
  have hr' : ∀ b ∈ r, 0 ≤ b ∧ b < 256 := fun b hb => hr b (List.mem_cons_of_mem _ hb)
  rw [tokK] at h
  split at h
  ·cases h; simp
  ·split at h
   ·rename_i h1
    cases h
    split
    ·simp
    ·rename_i h2
     have hb := idxB_bound (c :: r) 10
     have h3 : idxB (c :: r) 10 ≠ 0 := by
      simp only [idxB]
      rw [if_neg (by omega)]
      have := idxB_bound r 10
      split <;> omega
     omega
   ·split at h
    ·rename_i h1
     split at h
     ·cases h
     ·cases h
      have := runK_le partK (c :: r)
      refine ⟨?_, this⟩
      simp only [runK]
      rw [if_pos (by simp [partK, h1])]
      omega
    ·split at h
     ·obtain ⟨_, _, h⟩ := tokOf_ok h
      obtain ⟨g, hg, h7, _, _⟩ := wordK_ok h
      simp only [List.tail_cons, List.length_cons] at hg ⊢; omega
     ·split at h
      ·obtain ⟨_, _, h⟩ := tokOf_ok h
       have := textL_len r.length r [] 1 (Nat.le_refl _) h
       simp only [List.length_cons]; omega
      ·split at h
       ·obtain ⟨_, _, h⟩ := tokOf_ok h
        have := clsL_len _ _ _ _ _ r hr' h
        simp only [List.length_cons]; omega
       ·split at h
        ·obtain ⟨_, _, h⟩ := tokOf_ok h
         have := actL_len _ _ _ _ h
         simp only [List.length_cons] at this ⊢; omega
        ·split at h
         ·cases h; simp
         ·cases h
end Go.Am.R.L
