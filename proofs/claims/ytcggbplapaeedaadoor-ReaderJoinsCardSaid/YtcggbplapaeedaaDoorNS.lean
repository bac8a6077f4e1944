/-
  A part of the proof of a law: see the text that states it.
-/
import Derived.Test.YtcggbplapaeedaaDoorNT
set_option linter.all false
namespace Go.Am.R.L
open Go Go.Am.Pr
set_option maxRecDepth 100000
def tks : Nat → List Int → Except Int (List (Int × List Int))
 | 0, _ => .ok []
 | f + 1, r => match r with
  | [] => .ok []
  | _ :: _ => match tokK r with
   | .error (e, _) => .error e
   | .ok (kd, t, m, ok) => match tks f (r.drop m) with
    | .error e => .error e
    | .ok l => .ok (if ok then (kd, t) :: l else l)
theorem tks_cons (f : Nat) (c : Int) (r : List Int) : tks (f + 1) (c :: r) = match tokK (c :: r) with
      | .error (e, _) => .error e
      | .ok (kd, t, m, ok) => match tks f ((c :: r).drop m) with
        | .error e => .error e
        | .ok l => .ok (if ok then (kd, t) :: l else l) := by
  rw [tks.eq_def]
def strip : Except (Int × Nat) (List Mk) → Except Int (List (Int × List Int))
 | .error (e, _) => .error e
 | .ok l => .ok (l.map fun q => (q.1, q.2.1))
theorem strip_lex : ∀ (f k : Nat) (r : List Int), strip (lexS f k r) = tks f r
 | 0, k, r => rfl
 | f + 1, k, [] => rfl
 | f + 1, k, c :: r => by
  rw [lexS_cons, tks_cons]
  cases h : tokK (c :: r) with
  | error q => obtain ⟨e, d⟩ := q; rfl
  | ok q =>
   obtain ⟨kd, t, m, ok⟩ := q
   have ih := strip_lex f (k + m) ((c :: r).drop m)
   simp only
   rw [← ih]
   cases lexS f (k + m) ((c :: r).drop m) with
   | error q => obtain ⟨e, d⟩ := q; rfl
   | ok l => cases ok <;> rfl
def B8 (r : List Int) : Prop := ∀ c ∈ r, 0 ≤ c ∧ c < 256
theorem tks_fuel : ∀ (f g : Nat) (r : List Int), B8 r → r.length ≤ f → r.length ≤ g → tks f r = tks g r
 | 0, g, r, _, hf, _ => by
  have : r = [] := List.length_eq_zero_iff.1 (by omega)
  subst this
  cases g <;> rfl
 | f + 1, g, [], _, _, _ => by cases g <;> rfl
 | f + 1, 0, c :: r, _, _, hg => by simp at hg
 | f + 1, g + 1, c :: r, hr, hf, hg => by
  rw [tks_cons, tks_cons]
  cases h : tokK (c :: r) with
  | error q => rfl
  | ok q =>
   obtain ⟨kd, t, m, ok⟩ := q
   have hm := tokK_len hr h
   simp only
   have hl : ((c :: r).drop m).length ≤ (c :: r).length - 1 := by rw [List.length_drop]; omega
   simp only [List.length_cons] at hl hf hg
   rw [tks_fuel f g _ (fun b hb => hr b (List.mem_of_mem_drop hb)) (by omega) (by omega)]
theorem tks_skip {f : Nat} {r : List Int} {kd : Int} {t : List Int} {m : Nat} (h : tokK r = .ok (kd, t, m, false)) (hr : r ≠ []) : tks (f + 1) r = tks f (r.drop m) := by
 cases r with
 | nil => exact absurd rfl hr
 | cons c r =>
  rw [tks_cons, h]
  simp only
  cases tks f ((c :: r).drop m) <;> rfl
theorem tok_ws {c : Int} (h : c = 32 ∨ c = 9 ∨ c = 10 ∨ c = 13) (r : List Int) : tokK (c :: r) = .ok (0, [], 1, false) := by
 rw [tokK, if_pos h]
theorem tks_more (x : List Int) (hx : B8 x) : ∀ (f g : Nat) (r : List Int), B8 r → r.length ≤ f → r.length + 1 + x.length ≤ g →
  (∀ l, tks f r = .ok l → tks g (r ++ 10 :: x) = match tks x.length x with
   | .error e => .error e
   | .ok l' => .ok (l ++ l')) ∧ (∀ e, tks f r = .error e → e ≠ 11 → tks g (r ++ 10 :: x) = .error e)
 | f, 0, r, _, _, hg => by omega
 | f, g + 1, [], _, _, hg => by
  refine ⟨fun l h => ?_, fun e h => ?_⟩
  ·have : l = [] := by cases f <;> cases h <;> rfl
   subst this
   rw [List.nil_append, tks_skip (tok_ws (.inr (.inr (.inl rfl))) x) (by simp), List.drop_one, List.tail_cons, tks_fuel g x.length x hx (by simp only [List.length_nil] at hg; omega) (Nat.le_refl _)]
   cases tks x.length x <;> rfl
  ·cases f <;> cases h
 | 0, g + 1, c :: r, _, hf, _ => by simp at hf
 | f + 1, g + 1, c :: r, hr, hf, hg => by
  rw [tks_cons, List.cons_append, tks_cons]
  have hm := tok_more x c r hr
  rw [List.cons_append] at hm
  cases h : tokK (c :: r) with
  | error q =>
   obtain ⟨e, d⟩ := q
   refine ⟨nofun, fun e' he hne => ?_⟩
   have he : e = e' := by cases he; rfl
   subst he
   rcases hm with hm | ⟨d', hm⟩
   ·rw [hm, h]
   ·rw [h] at hm; cases hm; exact absurd rfl hne
  | ok q =>
   obtain ⟨kd, t, m, ok⟩ := q
   have hml := tokK_len hr h
   have hm : tokK (c :: (r ++ 10 :: x)) = .ok (kd, t, m, ok) := by
    rcases hm with hm | ⟨d', hm⟩
    ·rw [hm, h]
    ·rw [h] at hm; cases hm
   rw [hm]
   simp only
   have hd : (c :: (r ++ 10 :: x)).drop m = (c :: r).drop m ++ 10 :: x := by
    rw [← List.cons_append, List.drop_append_of_le_length hml.2]
   rw [hd]
   have hl : ((c :: r).drop m).length ≤ (c :: r).length - 1 := by rw [List.length_drop]; omega
   simp only [List.length_cons] at hl hf hg
   obtain ⟨ih1, ih2⟩ := tks_more x hx f g _ (fun b hb => hr b (List.mem_of_mem_drop hb)) (by omega : ((c :: r).drop m).length ≤ f) (by omega)
   cases h2 : tks f ((c :: r).drop m) with
   | error e =>
    refine ⟨nofun, fun e' he hne => ?_⟩
    have he : e = e' := by cases he; rfl
    subst he
    rw [ih2 e h2 hne]
   | ok l =>
    refine ⟨fun l' hl' => ?_, nofun⟩
    rw [ih1 l h2]
    have hl' : (if ok = true then (kd, t) :: l else l) = l' := by cases hl'; rfl
    subst hl'
    cases tks x.length x with
    | error e => rfl
    | ok l2 => cases ok <;> rfl
def kt (q : Mark) : Int × List Int := (q.1, q.2.1)
end Go.Am.R.L
