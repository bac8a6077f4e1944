/-
  A part of the proof of a law: see the text that states it.
-/
import Derived.Test.YtpbabncglokikaaDoorQ6
import Derived.Test.YtpbabncglokikaaDoorVcL
set_option linter.all false
namespace Go.Am.L
open Go Go.Am.Pr
set_option maxRecDepth 100000
theorem lex_big (s : List Int) (hl : 4000 < s.length) : E 11 [.tv [] .str s] [] bigOut [] := by
  refine ev_of (vc11 s _ ⟨fun _ => ⟨rfl, rfl⟩, fun h => ?_⟩)
  exfalso; (simp only [decide_eq_true_eq, decide_eq_false_iff_not, Bool.not_eq_true', Bool.not_eq_false'] at h); omega
theorem lexes (s : List Int) (hs : ∀ c ∈ s, 0 ≤ c ∧ c < 256) : E 3 [.tv [] .str s] [] (.tv [] .bool true) [] := by
  refine ev_of (vc3 s _ ⟨_, ⟨awake_ev⟩, fun h => ⟨fun _ => ⟨rfl, rfl⟩, fun h2 => ?_⟩, fun h => ?_⟩)
  · (simp only [decide_eq_true_eq, decide_eq_false_iff_not, Bool.not_eq_true', Bool.not_eq_false'] at h); (simp only [decide_eq_true_eq, decide_eq_false_iff_not, Bool.not_eq_true', Bool.not_eq_false'] at h2)
    have h11 := lex_big s (by omega)
    have h12 := rlex_big s (by omega)
    exact ⟨_, _, _, _, ⟨h11⟩, _, _, _, _, ⟨h12⟩, fun _ => ⟨fun _ => ⟨_, ⟨marks_ev [] (by simp)⟩, rfl, rfl⟩, fun g => by simp at g⟩, fun g => by cases g⟩
  · (simp only [decide_eq_true_eq, decide_eq_false_iff_not, Bool.not_eq_true', Bool.not_eq_false'] at h)
    have h11 := lex_ev s (by omega) hs
    have h12 := rlex_ev s (by omega) hs
    have hmk : ∀ l, glue s [] (lexS s.length 0 s) = .ok l → l.length ≤ 900000 := by
      intro l hl
      have key : ∀ (f k : Nat) (r : List Int) (l : List Mk), lexS f k r = .ok l → l.length ≤ f := by
        intro f
        induction f with
        | zero => intro k r l h; cases h; simp
        | succ f ih =>
          intro k r l h
          cases r with
          | nil => cases h; simp
          | cons c r =>
            rw [lexS_cons] at h
            split at h
            · cases h
            · rename_i kd t m ok hx
              cases hy : lexS f (k + m) ((c :: r).drop m) with
              | error e => rw [hy] at h; cases h
              | ok l' =>
                rw [hy] at h
                have := ih _ _ _ hy
                cases h
                split
                · simp; omega
                · omega
      cases hx : lexS s.length 0 s with
      | error e => rw [hx] at hl; cases hl
      | ok l' =>
        rw [hx] at hl
        have := key _ _ _ _ hx
        change Except.ok ([] ++ l'.map (markOf s)) = _ at hl
        cases hl
        simp; omega
    generalize glue s [] (lexS s.length 0 s) = o at h11 h12 hmk
    cases o with
    | error q =>
      obtain ⟨c, d⟩ := q
      obtain ⟨p1, p2, ⟨⟩⟩ : ∃ p1 p2, posK (s.take d) = (p1, p2, ()) := ⟨_, _, rfl⟩
      exact ⟨_, _, _, _, ⟨h11⟩, _, _, _, _, ⟨h12⟩, fun _ => ⟨fun _ => ⟨_, ⟨marks_ev [] (by simp)⟩, rfl, rfl⟩, fun g => by simp at g⟩, fun g => by cases g⟩
    | ok l =>
      have := hmk l rfl
      exact ⟨_, _, _, _, ⟨h11⟩, _, _, _, _, ⟨h12⟩, fun _ => ⟨fun _ => ⟨_, ⟨marks_ev _ (by rw [List.length_append]; simp only [List.length_cons, List.length_nil]; omega)⟩, rfl, rfl⟩, fun g => by simp at g⟩, fun g => by cases g⟩
end Go.Am.L
