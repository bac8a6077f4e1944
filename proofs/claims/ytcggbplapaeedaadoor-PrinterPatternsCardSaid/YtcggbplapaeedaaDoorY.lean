/-
  A part of the proof of a law: see the text that states it.
-/
import Derived.Test.YtcggbplapaeedaaDoorT
set_option linter.all false
namespace Go.Am.R
open Go Go.Am.Pr Go.Am.R.L
set_option maxRecDepth 100000
def escB (which : List Int) (c : Int) : List Int := if c = 10 then [92, 110] else if c = 9 then [92, 116] else if 0 ≤ idxB which c then [92, c] else [c]
def escT (which : List Int) (w : List Int) : List Int := w.flatMap (escB which)
abbrev qT : List Int := [92, 34]
theorem idxB_mem (c : Int) : ∀ l : List Int, 0 ≤ idxB l c ↔ c ∈ l
 | [] => by simp [idxB]
 | a :: l => by
  have ih := idxB_mem c l
  have hb := idxB_bound l c
  rw [List.mem_cons]
  unfold idxB
  split
  ·rename_i h; exact ⟨fun _ => .inl h.symm, fun _ => by omega⟩
  ·rename_i h
   split
   ·rename_i h2
    refine ⟨fun q => by omega, fun q => ?_⟩
    rcases q with q | q
    ·exact absurd q.symm h
    ·have := ih.2 q; omega
   ·rename_i h2
    exact ⟨fun _ => .inr (ih.1 (by omega)), fun _ => by omega⟩
theorem idxB_qT (c : Int) : 0 ≤ idxB qT c ↔ c = 92 ∨ c = 34 := by
 rw [idxB_mem]; simp
theorem textL_esc (out : List Int) (k : Nat) (c : Int) (x : List Int) (hc : 0 ≤ c ∧ c < 256) : textL out k (escB qT c ++ x) = textL (out ++ [c]) (k + (escB qT c).length) x := by
 unfold escB
 by_cases h10 : c = 10
 ·subst h10
  rw [if_pos rfl]
  show textL out k (92 :: 110 :: x) = _
  rw [textL_cons, if_neg (by decide), if_neg (by decide), if_pos rfl]
  have : escK mayT 110 = some 10 := by decide
  simp only [this]; rfl
 rw [if_neg h10]
 by_cases h9 : c = 9
 ·subst h9
  rw [if_pos rfl]
  show textL out k (92 :: 116 :: x) = _
  rw [textL_cons, if_neg (by decide), if_neg (by decide), if_pos rfl]
  have : escK mayT 116 = some 9 := by decide
  simp only [this]; rfl
 rw [if_neg h9]
 by_cases h : 0 ≤ idxB qT c
 ·rw [if_pos h]
  show textL out k (92 :: c :: x) = _
  rw [textL_cons, if_neg (by decide), if_neg (by decide), if_pos rfl]
  have : escK mayT c = some c := by
   rcases (idxB_qT c).1 h with rfl | rfl <;> decide
  simp only [this]; rfl
 ·rw [if_neg h]
  have hn : ¬ (c = 92 ∨ c = 34) := fun q => h ((idxB_qT c).2 q)
  show textL out k (c :: x) = _
  rw [textL_cons, if_neg h10, if_neg (by omega), if_neg (by omega)]
  rfl
theorem textL_escT : ∀ (w : List Int) (out : List Int) (k : Nat) (x : List Int), (∀ c ∈ w, 0 ≤ c ∧ c < 256) → textL out k (escT qT w ++ x) = textL (out ++ w) (k + (escT qT w).length) x
 | [], out, k, x, _ => by simp [escT]
 | c :: w, out, k, x, h => by
  have e : escT qT (c :: w) = escB qT c ++ escT qT w := rfl
  rw [e, List.append_assoc, textL_esc _ _ _ _ (h c (List.mem_cons_self ..)), textL_escT w _ _ x (fun b hb => h b (List.mem_cons_of_mem _ hb)), List.append_assoc, List.length_append, Nat.add_assoc]
  rfl
theorem tk_text {w : List Int} (hw : ∀ c ∈ w, 0 ≤ c ∧ c < 256) (h0 : w ≠ []) (hl : w.length ≤ 32) : Tok ([34] ++ escT qT w ++ [34]) 3 w true Any := by
 refine ⟨by simp, fun x _ => ?_⟩
 have e : [34] ++ escT qT w ++ [34] ++ x = 34 :: (escT qT w ++ 34 :: x) := by simp
 rw [e, tok34, textK, List.tail_cons, textL_escT w [] 1 _ hw, List.nil_append, textL_cons, if_neg (by decide), if_pos rfl, if_neg (by have := List.length_pos_iff.2 h0; omega), if_neg (by omega)]
 simp [tokOf]
 omega
end Go.Am.R
