/-
  A part of the proof of a law: see the text that states it.
-/
import Derived.Test.YtpbabncglokikaaDoorQ5
set_option linter.all false
namespace Go.Am.L
open Go Go.Am.Pr
set_option maxRecDepth 100000
abbrev bigOut : AV := .tup [.tv [] (.slice TMark) [], .tv [] TDiag (12, (1, 1, ()), ())]
theorem rlex_big (s : List Int) (hl : 4000 < s.length) : E 12 [.tv [] .str s] [] bigOut [] := by
  refine ev_of (vc12 s _ ⟨fun _ => ⟨rfl, rfl⟩, fun h => ?_⟩)
  exfalso; (simp only [decide_eq_true_eq, decide_eq_false_iff_not, Bool.not_eq_true', Bool.not_eq_false'] at h); omega
theorem at18_nat (s : List Int) (i : Int) (k : Nat) (e : i = k) (hl : s.length ≤ 1000000) : E 18 [.tv [] .str s, .tv [] (.int .i64) i] [] (.tv [] W3 (posK (s.take k))) [] := by
  have := at18_ev s i hl
  by_cases h9 : k ≤ s.length
  · have h2 : (max 0 (min i (s.length : Int))).toNat = k := by omega
    rwa [h2] at this
  · have h2 : (max 0 (min i (s.length : Int))).toNat = s.length := by omega
    rw [h2, List.take_of_length_le (Nat.le_refl _)] at this
    rwa [List.take_of_length_le (by omega)]
theorem rlex_ev (s : List Int) (hl : s.length ≤ 4000) (hs : ∀ c ∈ s, 0 ≤ c ∧ c < 256) :
    E 12 [.tv [] .str s] [] (lexOut s (glue s [] (lexS s.length 0 s))).1 (lexOut s (glue s [] (lexS s.length 0 s))).2 := by
  refine ev_out (vc12 s _ ?_)
  have hb : (1000000 : Nat) ≤ bigN := by decide
  generalize bigN = big at hb ⊢
  refine ⟨fun h => ?_, fun _ => ?_⟩
  · (simp only [decide_eq_true_eq, decide_eq_false_iff_not, Bool.not_eq_true', Bool.not_eq_false'] at h); omega
  refine ⟨fun out z _ _ _ => ∃ f k : Nat, z = k ∧ k ≤ s.length ∧ s.length ≤ k + f ∧ out.length ≤ k ∧ glue s out (lexS f k (s.drop k)) = glue s [] (lexS s.length 0 s), fun _ z _ _ _ => (s.length - z).toNat, ⟨s.length, 0, rfl, by omega, by omega, by simp, by simp⟩, ?_⟩
  rintro out z a1 a2 a3 ⟨f, k, rfl, hk, hf, ho, hv⟩
  refine ⟨fun h => ?_, fun h => ?_⟩
  · (simp only [decide_eq_true_eq, decide_eq_false_iff_not, Bool.not_eq_true', Bool.not_eq_false'] at h)
    have hn : k < s.length := by omega
    obtain ⟨f, rfl⟩ : ∃ g, f = g + 1 := ⟨f - 1, by omega⟩
    have hd := drop_cons (0 : Int) hn
    rw [hd, lexS_cons, ← hd] at hv
    have hne := rnext_ev s k hn (by omega) hs
    cases hx : tokK (s.drop k) with
    | error q =>
      obtain ⟨c, d⟩ := q
      rw [hx] at hv hne
      change Except.error (c, k + d) = _ at hv
      have hc := tok_code hx
      have e1 := at18_nat s ((k : Int) + d) (k + d) (by omega) (by omega)
      refine ⟨_, _, _, _, _, ⟨hne⟩, fun _ => ⟨_, _, ⟨e1⟩, ?_⟩, fun g => absurd (of_decide_eq_false g) (by simpa using hc)⟩
      rw [← hv]; rfl
    | ok q =>
      obtain ⟨kd, t, m, ok⟩ := q
      rw [hx] at hv hne
      have hm := tokK_len (fun c hc => hs c (List.mem_of_mem_drop hc)) hx
      simp only [List.length_drop] at hm
      have ea : (k : Int) + (m : Int) = ((k + m : Nat) : Int) := by omega
      have hmore : ∀ l, lexS f (k + m) (s.drop (k + m)) = l → glue s out (match l with
        | .error e => .error e
        | .ok l => .ok (if ok then (kd, t, k) :: l else l)) = glue s (if ok then out ++ [(kd, t, posK (s.take k), ())] else out) l := by
        intro l _
        cases l with
        | error e => rfl
        | ok l => cases ok <;> simp [glue, markOf]
      simp only [List.drop_drop] at hv
      replace hv := (hmore _ rfl).symm.trans hv
      refine ⟨_, _, _, _, _, ⟨hne⟩, fun g => absurd (of_decide_eq_true g) (by decide), fun _ => ?_⟩
      cases ok with
      | true =>
        have hkd := (tok_kind hx).1
        refine ⟨fun _ => ⟨_, _, ⟨at18_nat s k k rfl (by omega)⟩, ⟨by simp only [List.length_cons, List.length_nil]; omega⟩, ⟨f, k + m, ea, by omega, by omega, by simp; omega, hv⟩, ⟨by ((try dsimp only); omega)⟩⟩, fun g => ?_⟩
        exfalso
        have := of_decide_eq_false g
        simp only [if_true] at this; omega
      | false =>
        refine ⟨fun g => absurd (of_decide_eq_true g) (by simp), fun _ => ⟨⟨f, k + m, ea, by omega, by omega, by omega, hv⟩, ⟨by ((try dsimp only); omega)⟩⟩⟩
  · (simp only [decide_eq_true_eq, decide_eq_false_iff_not, Bool.not_eq_true', Bool.not_eq_false'] at h)
    have : s.drop k = [] := List.drop_eq_nil_of_le (by omega)
    rw [this] at hv
    have h0 : lexS f k [] = .ok [] := by cases f <;> rfl
    rw [h0] at hv
    refine ⟨_, _, ⟨at18_nat s s.length s.length rfl (by omega)⟩, ⟨by simp only [List.length_cons, List.length_nil]; omega⟩, ?_⟩
    change Except.ok (out ++ []) = _ at hv
    rw [← hv, List.take_of_length_le (Nat.le_refl _), List.append_nil]; rfl
theorem marks_ev (a : List Mark) (ha : a.length ≤ 1000000) : E 13 [.tv [] (.slice TMark) a, .tv [] (.slice TMark) a] [] (.tv [] .bool true) [] := by
  refine ev_of (vc13 a a _ ⟨fun h => absurd rfl (of_decide_eq_true h), fun _ => ?_⟩)
  refine ⟨fun z => ∃ k : Nat, z = k ∧ k ≤ a.length, fun z => (a.length - z).toNat, ⟨0, rfl, by omega⟩, ?_⟩
  rintro _ ⟨k, rfl, hk⟩
  refine ⟨fun h => ?_, fun h => ⟨rfl, rfl⟩⟩
  (simp only [decide_eq_true_eq, decide_eq_false_iff_not, Bool.not_eq_true', Bool.not_eq_false'] at h)
  refine ⟨⟨by omega⟩, ⟨by omega⟩, fun g => ?_, fun g => ⟨⟨by omega⟩, ⟨k + 1, by omega, by omega⟩, ⟨by ((try dsimp only); omega)⟩⟩⟩
  exfalso; simp at g
end Go.Am.L
