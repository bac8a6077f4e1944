/-
  A part of the proof of a law: see the text that states it.
-/
import Derived.Test.YtcggbplapaeedaaDoorLM
set_option linter.all false
namespace Go.Am.R.L
open Go Go.Am.Pr
set_option maxRecDepth 100000
theorem run_more (p : Int → Bool) (hp : p 10 = false) (x : List Int) : ∀ r : List Int, runK p (r ++ 10 :: x) = runK p r
 | [] => by simp [runK, hp]
 | c :: r => by simp only [List.cons_append, runK, run_more p hp x r]
theorem idx_more (x : List Int) : ∀ r : List Int, idxB (r ++ 10 :: x) 10 = if idxB r 10 < 0 then (r.length : Int) else idxB r 10
 | [] => by simp [idxB]
 | c :: r => by
  have hb := idxB_bound r 10
  simp only [List.cons_append, idxB, idx_more x r, List.length_cons]
  by_cases h : c = 10
  ·simp only [if_pos h]; rfl
  ·simp only [if_neg h]
   by_cases h2 : idxB r 10 < 0
   ·simp only [if_pos h2]
    rw [if_neg (by omega), if_pos (by omega)]; omega
   ·simp only [if_neg h2]
    rw [if_neg (by omega)]
theorem one_more (x : List Int) (c : Int) (r : List Int) : oneS (c :: r ++ 10 :: x) = oneS (c :: r) := by
 rw [List.cons_append, oneS, oneS]
 by_cases h : c = 92
 ·rw [if_pos h, if_pos h]
  cases r with
  | nil => rfl
  | cons d r => rfl
 ·rw [if_neg h, if_neg h]
theorem text_more (x : List Int) : ∀ (f : Nat) (r : List Int) (out : List Int) (k : Nat), r.length ≤ f → textL out k (r ++ 10 :: x) = textL out k r
 | f, [], out, k, _ => by rw [List.nil_append, textL_cons, if_pos rfl]; simp [textL]
 | 0, c :: r, out, k, hf => by simp at hf
 | f + 1, c :: r, out, k, hf => by
  have hf' : r.length ≤ f := by simp only [List.length_cons] at hf; omega
  rw [List.cons_append, textL_cons, textL_cons, text_more x f r _ _ hf']
  cases r with
  | nil =>
   have h1 : escK mayT 10 = none := by decide
   simp only [List.nil_append, h1]
  | cons d r =>
   simp only [List.cons_append, text_more x f r _ _ (by simp only [List.length_cons] at hf'; omega)]
theorem act_more (w y : List Int) : ∀ (r : List Int) (d : Int) (k : Nat), k + r.length ≤ w.length → actL w d k r = .error (11, 0) ∨ actL (w ++ y) d k (r ++ y) = actL w d k r
 | [], d, k, _ => .inl rfl
 | c :: r, d, k, h => by
  simp only [List.length_cons] at h
  rw [List.cons_append, actL, actL]
  by_cases h1 : c = 123
  ·simp only [if_pos h1]
   by_cases h2 : 4 < d + 1
   ·simp only [if_pos h2]; exact .inr trivial
   ·simp only [if_neg h2]; exact act_more w y r _ _ (by omega)
  ·simp only [if_neg h1]
   by_cases h2 : c = 125
   ·simp only [if_pos h2]
    by_cases h3 : 0 < d - 1
    ·simp only [if_pos h3]; exact act_more w y r _ _ (by omega)
    ·simp only [if_neg h3]
     rw [List.take_append_of_le_length (by omega)]
     exact .inr rfl
   ·simp only [if_neg h2]; exact act_more w y r _ _ (by omega)
theorem cls_more (x : List Int) : ∀ (f g : Nat) (sm : Bool) (last : Int) (has : List Bool) (k : Nat) (r : List Int), (∀ c ∈ r, 0 ≤ c ∧ c < 256) → r.length ≤ f → r.length < g → clsL g sm last has k (r ++ 10 :: x) = clsL f sm last has k r
 | f, 0, sm, last, has, k, r, _, _, hg => by omega
 | f, g + 1, sm, last, has, k, [], _, _, _ => by
  rw [List.nil_append, clsL_cons, if_pos rfl]
  cases f <;> rfl
 | 0, g + 1, sm, last, has, k, c :: r, _, hf, _ => by simp at hf
 | f + 1, g + 1, sm, last, has, k, c :: r, hr, hf, hg => by
  have hf' : r.length ≤ f := by simp only [List.length_cons] at hf; omega
  have hg' : r.length < g := by simp only [List.length_cons] at hg; omega
  have hr' : ∀ b ∈ r, 0 ≤ b ∧ b < 256 := fun b hb => hr b (List.mem_cons_of_mem _ hb)
  rw [List.cons_append, clsL_cons, clsL_cons]
  by_cases h1 : c = 10
  ·simp only [if_pos h1]
  ·simp only [if_neg h1]
   by_cases h2 : c = 93
   ·simp only [if_pos h2]
   ·simp only [if_neg h2]
    by_cases h3 : c = 45
    ·simp only [if_pos h3]
     by_cases h4 : last < 0
     ·simp only [if_pos h4]
     ·simp only [if_neg h4]
      cases r with
      | nil => simp only [List.nil_append, if_pos]
      | cons d r =>
       have ho := one_more x d r
       rw [List.cons_append] at ho
       simp only [List.cons_append, ho]
       by_cases h5 : d = 10
       ·simp only [if_pos h5]
       ·simp only [if_neg h5]
        by_cases h6 : d = 93
        ·simp only [if_pos h6]
        ·simp only [if_neg h6]
         cases hx : oneS (d :: r) with
         | none => rfl
         | some q =>
          obtain ⟨y, j⟩ := q
          obtain ⟨_, _, h8, h9⟩ := oneS_byte hr' hx
          simp only
          have hd : (d :: (r ++ 10 :: x)).drop j = (d :: r).drop j ++ 10 :: x := by
           rw [← List.cons_append, List.drop_append_of_le_length h9]
          have hld : ((d :: r).drop j).length ≤ (d :: r).length - 1 := by rw [List.length_drop]; omega
          simp only [List.length_cons] at hld hf' hg'
          rw [hd, cls_more x f g _ _ _ _ _ (fun b hb => hr' b (List.mem_of_mem_drop hb)) (by omega) (by omega)]
    ·simp only [if_neg h3]
     have ho := one_more x c r
     rw [List.cons_append] at ho
     rw [ho]
     cases hx : oneS (c :: r) with
     | none => rfl
     | some q =>
      obtain ⟨y, j⟩ := q
      obtain ⟨_, _, h8, h9⟩ := oneS_byte hr hx
      simp only
      have hd : (c :: (r ++ 10 :: x)).drop j = (c :: r).drop j ++ 10 :: x := by
       rw [← List.cons_append, List.drop_append_of_le_length h9]
      have hld : ((c :: r).drop j).length ≤ (c :: r).length - 1 := by rw [List.length_drop]; omega
      simp only [List.length_cons] at hld
      rw [hd, cls_more x f g _ _ _ _ _ (fun b hb => hr b (List.mem_of_mem_drop hb)) (by omega) (by omega)]
theorem word_more (x : List Int) (r : List Int) : wordK (37 :: r ++ 10 :: x) = wordK (37 :: r) := by
 unfold wordK
 simp only [List.cons_append, List.tail_cons, run_more lowerK (by decide)]
 have h1 : (r ++ 10 :: x).head? = some 37 ↔ r.head? = some 37 := by
  cases r with
  | nil => simp
  | cons d r => simp
 have h2 : ∀ n, n ≤ r.length → (r ++ 10 :: x).take n = r.take n := fun n h => List.take_append_of_le_length h
 have hg : (if r.head? = some 37 then 1 else runK lowerK r) ≤ r.length := by
  have hrl := runK_le lowerK r
  split
  ·rename_i h6
   cases r with
   | nil => cases h6
   | cons d r => simp
  ·exact hrl
 have e : (if (r ++ 10 :: x).head? = some 37 then 1 else runK lowerK r) = (if r.head? = some 37 then 1 else runK lowerK r) := by
  by_cases h9 : r.head? = some 37
  ·rw [if_pos h9, if_pos (h1.2 h9)]
  ·rw [if_neg h9, if_neg (fun h => h9 (h1.1 h))]
 rw [e, h2 _ hg]
 first | rfl | (congr 1; done) | simp
theorem tok_more (x : List Int) (c : Int) (r : List Int) (hr : ∀ b ∈ c :: r, 0 ≤ b ∧ b < 256) : tokK (c :: r ++ 10 :: x) = tokK (c :: r) ∨ ∃ d, tokK (c :: r) = .error (11, d) := by
 have hc1 : (c :: (r ++ 10 :: x)) = (c :: r) ++ 10 :: x := rfl
 rw [List.cons_append, tokK, tokK]
 by_cases h1 : c = 32 ∨ c = 9 ∨ c = 10 ∨ c = 13
 ·simp only [if_pos h1]; exact .inl trivial
 simp only [if_neg h1]
 by_cases h2 : c = 35
 ·simp only [if_pos h2]
  left
  rw [hc1, idx_more]
  have hb := idxB_bound (c :: r) 10
  by_cases h3 : idxB (c :: r) 10 < 0
  ·simp only [if_pos h3]
   rw [if_neg (by omega), Int.toNat_natCast]
  ·simp only [if_neg h3]
 simp only [if_neg h2]
 by_cases h3 : letterK c = true
 ·simp only [if_pos h3]
  left
  rw [hc1, run_more partK (by decide), List.take_append_of_le_length (runK_le partK _)]
 simp only [if_neg h3]
 by_cases h4 : c = 37
 ·simp only [if_pos h4]
  left
  subst h4
  rw [hc1, word_more]
 simp only [if_neg h4]
 by_cases h5 : c = 34
 ·simp only [if_pos h5]
  left
  unfold textK
  rw [List.tail_cons, List.tail_cons, text_more x r.length r _ _ (Nat.le_refl _)]
 simp only [if_neg h5]
 by_cases h6 : c = 91
 ·simp only [if_pos h6]
  left
  unfold clsK
  rw [List.tail_cons, List.tail_cons, cls_more x (c :: r).length _ _ _ _ _ r (fun b hb => hr b (List.mem_cons_of_mem _ hb)) (by simp) (by simp; omega)]
 simp only [if_neg h6]
 by_cases h7 : c = 123
 ·simp only [if_pos h7]
  unfold actK
  rcases act_more (c :: r) (10 :: x) (c :: r) 0 0 (by simp) with h | h
  ·right; rw [h]; exact ⟨0, rfl⟩
  ·left; rw [hc1, h]
 simp only [if_neg h7]
 exact .inl trivial
end Go.Am.R.L
