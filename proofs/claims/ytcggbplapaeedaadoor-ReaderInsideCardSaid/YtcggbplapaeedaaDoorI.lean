/-
  A part of the proof of a law: see the text that states it.
-/
import Derived.Test.YtcggbplapaeedaaDoorH
import Derived.Test.YtcggbplapaeedaaDoorVcC
set_option linter.all false
namespace Go.Am.R
open Go Go.Am.Pr Go.Am.R.L
set_option maxRecDepth 100000
theorem tok_name {r : List Int} {t : List Int} {m : Nat} (h : tokK r = .ok (1, t, m, true)) : t ≠ [] := by
 cases r with
 | nil => cases h
 | cons c r =>
  rw [tokK] at h
  split at h
  ·cases h
  ·split at h
   ·cases h
   ·split at h
    ·rename_i hc
     split at h
     ·cases h
     ·cases h
      have hp : partK c = true := by unfold partK; rw [hc]; rfl
      simp [runK, hp]
    ·split at h
     ·exact absurd (tokOf_ok h).1 (by decide)
     ·split at h
      ·exact absurd (tokOf_ok h).1 (by decide)
      ·split at h
       ·exact absurd (tokOf_ok h).1 (by decide)
       ·split at h
        ·exact absurd (tokOf_ok h).1 (by decide)
        ·split at h
         ·have h1 : signK c = 1 := congrArg (fun q => match q with | .ok (a, _) => a | .error _ => (0 : Int)) h
          unfold signK at h1
          split at h1
          ·cases h1
          ·split at h1
           ·cases h1
           ·split at h1 <;> cases h1
         ·cases h
theorem lexS_name : ∀ (f k : Nat) (r : List Int) {l : List Mk}, lexS f k r = .ok l → ∀ q ∈ l, q.1 = 1 → q.2.1 ≠ []
 | 0, k, r, l, h => by cases h; nofun
 | f + 1, k, [], l, h => by cases h; nofun
 | f + 1, k, c :: r, l, h => by
  rw [lexS_cons] at h
  cases hx : tokK (c :: r) with
  | error q => rw [hx] at h; cases h
  | ok q =>
   obtain ⟨kd, t, m, ok⟩ := q
   rw [hx] at h
   simp only at h
   cases hy : lexS f (k + m) ((c :: r).drop m) with
   | error q => rw [hy] at h; cases h
   | ok l' =>
    rw [hy] at h
    have ih := lexS_name f _ _ hy
    cases ok with
    | false => cases h; exact ih
    | true =>
     cases h
     intro q hq hq1
     simp only [if_pos, List.mem_cons] at hq
     rcases hq with rfl | hq
     ·simp only at hq1; subst hq1; exact tok_name hx
     ·exact ih q hq hq1
def AtIn (s : List Int) (p : Pos) : Prop := ∃ k, k ≤ s.length ∧ p = posK (s.take k)
theorem atIn (s : List Int) (k : Nat) : AtIn s (posK (s.take k)) := by
 by_cases h : k ≤ s.length
 ·exact ⟨k, h, rfl⟩
 ·refine ⟨s.length, Nat.le_refl _, ?_⟩
  rw [List.take_of_length_le (by omega), List.take_of_length_le (Nat.le_refl _)]
theorem lexK_ok {s : List Int} {l : List L.Mark} (hl : s.length ≤ 4000) (h : lexK s = .ok l) : Mk0 (AtIn s) (l ++ [(0, ([], (posK s, ())))]) := by
 have hlen := lexK_len h
 unfold lexK at h
 cases hq : lexS s.length 0 s with
 | error e => rw [hq] at h; cases h
 | ok q =>
  rw [hq] at h
  have hn := lexS_name _ _ _ hq
  cases h
  refine ⟨fun m hm => ?_, fun m hm h1 => ?_, ⟨_, _, rfl, rfl⟩, by rw [List.length_append]; simp only [List.length_cons, List.length_nil]; omega⟩
  ·simp only [List.nil_append, List.mem_append, List.mem_map, List.mem_singleton] at hm
   rcases hm with ⟨q, hq, rfl⟩ | rfl
   ·exact atIn s _
   ·have := atIn s s.length
    rwa [List.take_of_length_le (Nat.le_refl _)] at this
  ·simp only [List.nil_append, List.mem_append, List.mem_map, List.mem_singleton] at hm
   rcases hm with ⟨q, hq, rfl⟩ | rfl
   ·exact hn q hq h1
   ·exact absurd (show (0 : Int) = 1 from h1) (by decide)
theorem readK_ok (s : List Int) (hl : s.length ≤ 4000) : (∃ c p, readK s = (gr0, (c, (p, ()))) ∧ c ≠ 0 ∧ AtIn s p) ∨ ∃ g : G, readK s = (grOf g, dg0) ∧ J g ∧ g.rl ≠ [] := by
 unfold readK
 cases hk : lexK s with
 | error e =>
  obtain ⟨e, k⟩ := e
  have he : e ≠ 0 := by
   unfold lexK at hk
   cases hq : lexS s.length 0 s with
   | error q => rw [hq] at hk; obtain ⟨a, b⟩ := q; cases hk; exact lexS_code _ _ _ hq
   | ok q => rw [hq] at hk; cases hk
  simp only
  rw [if_pos he]
  exact .inl ⟨e, _, rfl, he, atIn s k⟩
 | ok l =>
  have H := lexK_ok hl hk
  simp only
  unfold marksK
  have hk2 := allK_ok H (r := l ++ [(0, ([], (posK s, ())))]) (s := G0) ⟨List.suffix_rfl, by simp⟩ J0
  rcases hq : allK (l ++ [(0, ([], (posK s, ())))]) G0 with ⟨_ | e, r', g⟩
  ·rw [hq] at hk2
   exact .inr ⟨g, rfl, hk2.2, allK_rl hq⟩
  ·obtain ⟨c, p⟩ := e
   rw [hq] at hk2
   exact .inl ⟨c, p, rfl, hk2.2, hk2.1⟩
theorem start_ne {g : G} (j : J g) (h : g.rl ≠ []) : (grOf g).2.2.2.1 ≠ [] := by
 unfold grOf
 by_cases ho : g.on = true
 ·rw [if_pos ho]; exact j.st ho
 ·rw [if_neg ho]
  have hl := List.length_pos_iff.2 h
  exact j.rlL _ (getD_mem' _ _ _ hl)
theorem nodup_ne {α β : Type} (f : α → β) {l : List α} (h : (l.map f).Nodup) (d : α) {i k : Nat} (hi : i < l.length) (hk : k < i) : f (l.getD i d) ≠ f (l.getD k d) := by
 have := List.pairwise_iff_getElem.1 h k i (by simpa using Nat.lt_trans hk hi) (by simpa using hi) hk
 rw [List.getD_eq_getElem?_getD, List.getD_eq_getElem?_getD, List.getElem?_eq_getElem hi, List.getElem?_eq_getElem (Nat.lt_trans hk hi)]
 simp only [Option.getD_some]
 simp only [List.getElem_map] at this
 exact fun e => this e.symm
end Go.Am.R
