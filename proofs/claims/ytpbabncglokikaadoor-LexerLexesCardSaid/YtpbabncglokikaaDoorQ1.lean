/-
  A part of the proof of a law: see the text that states it.
-/
import Derived.Test.YtpbabncglokikaaDoorBase
import Derived.Test.YtpbabncglokikaaDoorNP
import Derived.Test.YtpbabncglokikaaDoorVcQ
set_option linter.all false
namespace Go.Am.L
open Go Go.Am.Pr
set_option maxRecDepth 100000
abbrev tF : Ty := .pair (.int .i64) (.pair .str (.pair (.int .i64) (.pair (.int .i64) (.pair (.int .i64) .unit))))
abbrev Fnd := Int × List Int × Int × Int × Int × Unit
def foundR (n : Nat) (kind : Int) : Res → Fnd
  | .error (c, d) => (0, [], 0, c, (n : Int) + d, ())
  | .ok (t, k) => (kind, t, (n : Int) + k, 0, 0, ())
theorem fbad {n : Nat} {kind c i : Int} {d : Nat} (h : i = (n : Int) + d) : (AV.tv [] tF (0, [], 0, c, i, ()) = AV.tv [] tF (foundR n kind (.error (c, d)))) ∧ ([] : Heap) = [] := by subst h; exact ⟨rfl, rfl⟩
theorem fok {n : Nat} {kind i : Int} {k : Nat} {t : List Int} (h : i = (n : Int) + k) : (AV.tv [] tF (kind, t, i, 0, 0, ()) = AV.tv [] tF (foundR n kind (.ok (t, k)))) ∧ ([] : Heap) = [] := by subst h; exact ⟨rfl, rfl⟩
theorem rbad_ev (c i : Int) : E 39 [.tv [] (.int .i64) c, .tv [] (.int .i64) i] [] (.tv [] tF (0, [], 0, c, i, ())) [] := ev_of (vc39 c i _ ⟨rfl, rfl⟩)
def toldO : Option Int → Int × Bool
  | none => (0, false)
  | some c => (c, true)
theorem escT (c : Int) : escK mayT c = if c = 110 then some 10 else if c = 116 then some 9 else if c = 92 then some c else if c = 34 then some c else none := by
  by_cases h1 : c = 110
  · subst h1; decide
  by_cases h2 : c = 116
  · subst h2; decide
  by_cases h3 : c = 92
  · subst h3; decide
  by_cases h4 : c = 34
  · subst h4; decide
  rw [if_neg h1, if_neg h2, if_neg h3, if_neg h4]
  have h1 : ¬ (110 : Int) = c := fun h => h1 h.symm
  have h2 : ¬ (116 : Int) = c := fun h => h2 h.symm
  have h3 : ¬ (92 : Int) = c := fun h => h3 h.symm
  have h4 : ¬ (34 : Int) = c := fun h => h4 h.symm
  simp [escK, mayT, idxB, h1, h2, h3, h4]
theorem escC (c : Int) : escK mayC c = if c = 110 then some 10 else if c = 116 then some 9 else if c = 92 then some c else if c = 93 then some c else if c = 45 then some c else none := by
  by_cases h1 : c = 110
  · subst h1; decide
  by_cases h2 : c = 116
  · subst h2; decide
  by_cases h3 : c = 92
  · subst h3; decide
  by_cases h4 : c = 93
  · subst h4; decide
  by_cases h5 : c = 45
  · subst h5; decide
  rw [if_neg h1, if_neg h2, if_neg h3, if_neg h4, if_neg h5]
  have h1 : ¬ (110 : Int) = c := fun h => h1 h.symm
  have h2 : ¬ (116 : Int) = c := fun h => h2 h.symm
  have h3 : ¬ (92 : Int) = c := fun h => h3 h.symm
  have h4 : ¬ (93 : Int) = c := fun h => h4 h.symm
  have h5 : ¬ (45 : Int) = c := fun h => h5 h.symm
  simp [escK, mayC, idxB, h1, h2, h3, h4, h5]
def mayOf (cls : Bool) : List Int := if cls then mayC else mayT
theorem told_ev (s : List Int) (i : Int) (n : Nat) (e : i = n) (cls : Bool) (hl : s.length ≤ 1000000) (hn : n < s.length) :
    E 54 [.tv [] .str s, .tv [] (.int .i64) i, .tv [] .bool cls] [] (.tup [.tv [] (.int .u8) (toldO (escS (mayOf cls) (s.drop (n + 1)))).1, .tv [] .bool (toldO (escS (mayOf cls) (s.drop (n + 1)))).2]) [] := by
  subst e
  refine ev_of (vc54 s n cls _ ⟨⟨by omega⟩, fun h => ?_, fun h => ⟨⟨by omega⟩, ?_⟩⟩)
  · (simp only [decide_eq_true_eq, decide_eq_false_iff_not, Bool.not_eq_true', Bool.not_eq_false'] at h)
    have : s.drop (n + 1) = [] := List.drop_eq_nil_of_le (by omega)
    rw [this]; exact ⟨rfl, rfl⟩
  (simp only [decide_eq_true_eq, decide_eq_false_iff_not, Bool.not_eq_true', Bool.not_eq_false'] at h)
  have hn' : n + 1 < s.length := by omega
  refine ⟨⟨by omega⟩, ?_⟩
  have e1 : Int.toNat ((n : Int) + 1) = n + 1 := by omega
  rw [e1, drop_cons (0 : Int) hn']
  have e2 : ∀ c r, escS (mayOf cls) (c :: r) = if cls then escK mayC c else escK mayT c := by intro c r; cases cls <;> rfl
  rw [e2, escT, escC]
  generalize s.getD (n + 1) 0 = c
  cases cls <;> simp only [Bool.not_true, Bool.not_false, if_true, Bool.false_eq_true, if_false]
  · refine ⟨fun h => ?_, fun h => ⟨fun h2 => ?_, fun h2 => ⟨fun h3 => ?_, fun h3 => ⟨fun h4 => ⟨fun _ => ?_, nofun⟩, fun h4 => ⟨fun h5 => ⟨nofun, fun _ => ?_⟩, fun h5 => ⟨fun h6 => ⟨nofun, fun _ => ?_⟩, fun h6 => ?_⟩⟩⟩⟩⟩⟩
    all_goals simp only [decide_eq_true_eq, decide_eq_false_iff_not] at *
    all_goals simp_all [toldO]
  · refine ⟨fun h => ?_, fun h => ⟨fun h2 => ?_, fun h2 => ⟨fun h3 => ?_, fun h3 => ⟨fun h4 => ⟨nofun, fun _ => ⟨fun h5 => ⟨fun _ => ?_, nofun⟩, fun h5 => ⟨fun h6 => ⟨fun _ => ?_, nofun⟩, fun h6 => ?_⟩⟩⟩, fun h4 => ⟨fun h5 => ⟨fun _ => ?_, nofun⟩, fun h5 => ⟨fun h6 => ⟨fun _ => ?_, nofun⟩, fun h6 => ?_⟩⟩⟩⟩⟩⟩
    all_goals simp only [decide_eq_true_eq, decide_eq_false_iff_not] at *
    all_goals simp_all [toldO]
theorem cut1 (s : List Int) (n : Nat) (h : n < s.length) : cut s n (n + 1) = [s.getD n 0] := by
  rw [cut_take, drop_cons (0 : Int) h]; rfl
theorem rtext_ev (s : List Int) (i : Int) (n : Nat) (e : i = n) (hn : n < s.length) (hl : s.length ≤ 1000000) :
    E 41 [.tv [] .str s, .tv [] (.int .i64) i] [] (.tv [] tF (foundR n 3 (textK (s.drop n)))) [] := by
  subst e
  refine ev_of (vc41 s n _ ?_)
  have hb : (1000002 : Nat) ≤ bigN := by decide
  generalize bigN = big at hb ⊢
  refine ⟨⟨by omega⟩, fun out z _ _ _ _ _ => ∃ k : Nat, z = ((n + k : Nat) : Int) ∧ out.length ≤ k ∧ n + k ≤ s.length + 1 ∧ textL out k (s.drop (n + k)) = textK (s.drop n), fun _ z _ _ _ _ _ => (s.length + 1 - z).toNat, ⟨1, by omega, Nat.zero_le _, by omega, by simp [textK, List.tail_drop]⟩, ?_⟩
  rintro out z _ _ _ _ _ ⟨k, rfl, ho, hk, hv⟩
  refine ⟨fun h => ?_, fun h => ⟨_, _, _, _, _, ⟨rbad_ev _ _⟩, ?_⟩⟩
  · (simp only [decide_eq_true_eq, decide_eq_false_iff_not, Bool.not_eq_true', Bool.not_eq_false'] at h)
    have hn' : n + k < s.length := by omega
    have ht := told_ev s ((n + k : Nat) : Int) (n + k) rfl false hl hn'
    rw [drop_cons (0 : Int) hn'] at hv
    rw [textL_cons] at hv
    have e1 : Int.toNat (((n + k : Nat) : Int) + 1) = n + k + 1 := by omega
    rw [Int.toNat_natCast, e1, cut1 s _ hn']
    refine ⟨⟨by omega⟩, fun h1 => ⟨_, _, _, _, _, ⟨rbad_ev _ _⟩, ?_⟩, fun h1 => ⟨⟨by omega⟩, fun h2 => ⟨fun h3 => ⟨_, _, _, _, _, ⟨rbad_ev _ _⟩, ?_⟩, fun h3 => ⟨fun h4 => ⟨_, _, _, _, _, ⟨rbad_ev _ _⟩, ?_⟩, fun h4 => ⟨⟨by omega⟩, ?_⟩⟩⟩, fun h2 => ⟨⟨by omega⟩, fun h3 => ?_, fun h3 => ⟨⟨by omega⟩, ⟨by omega⟩, ⟨by simp only [List.length_cons, List.length_nil]; omega⟩, ⟨by omega⟩, ⟨k + 1, by omega, by simp; omega, by omega, ?_⟩, ⟨by ((try dsimp only); omega)⟩⟩⟩⟩⟩
    all_goals simp only [decide_eq_true_eq, decide_eq_false_iff_not] at h1
    · rw [if_pos h1] at hv
      rw [← hv]; exact fbad (by omega)
    · simp only [decide_eq_true_eq] at h2 h3
      rw [if_neg h1, if_pos h2, if_pos (by rw [h3]; rfl)] at hv
      rw [← hv]; exact fbad (by omega)
    · simp only [decide_eq_true_eq, decide_eq_false_iff_not] at h2 h3 h4
      have : ¬ (out.length : Int) = 0 := fun h => h3 (List.eq_nil_of_length_eq_zero (by omega))
      rw [if_neg h1, if_pos h2, if_neg this, if_pos h4] at hv
      rw [← hv]; exact fbad (by omega)
    · simp only [decide_eq_true_eq, decide_eq_false_iff_not] at h2 h3 h4
      have : ¬ (out.length : Int) = 0 := fun h => h3 (List.eq_nil_of_length_eq_zero (by omega))
      rw [if_neg h1, if_pos h2, if_neg this, if_neg h4] at hv
      rw [← hv]; exact fok (by omega)
    · simp only [decide_eq_true_eq, decide_eq_false_iff_not] at h2 h3
      rw [if_neg h1, if_neg h2, if_pos h3] at hv
      have hm : mayOf false = mayT := rfl
      rw [hm] at ht
      have hv2 : (match escS mayT (s.drop (n + k + 1)) with
        | none => (.error (10, k) : Res)
        | some e => textL (out ++ [e]) (k + 2) ((s.drop (n + k + 1)).drop 1)) = textK (s.drop n) := by
        rw [← hv]
        cases s.drop (n + k + 1) with
        | nil => rfl
        | cons d r => rfl
      clear hv
      generalize hx : escS mayT (s.drop (n + k + 1)) = x at hv2 ht
      cases x with
      | none => exact ⟨_, _, ⟨ht⟩, fun _ => ⟨_, _, _, _, _, ⟨rbad_ev _ _⟩, by rw [← hv2]; exact fbad (by omega)⟩, nofun⟩
      | some y =>
        have hn2 : n + k + 1 < s.length := by
          rcases Nat.lt_or_ge (n + k + 1) s.length with h | h
          · exact h
          · rw [List.drop_eq_nil_of_le h] at hx; cases hx
        refine ⟨_, _, ⟨ht⟩, nofun, fun _ => ⟨⟨by simp only [List.length_cons, List.length_nil]; omega⟩, ⟨by omega⟩, ⟨k + 2, by omega, by simp only [List.length_append, List.length_cons, List.length_nil]; omega, by omega, ?_⟩, ⟨by ((try dsimp only); omega)⟩⟩⟩
        rw [← hv2, List.drop_drop]; rfl
    · simp only [decide_eq_false_iff_not] at h2 h3
      rw [if_neg h1, if_neg h2, if_neg h3] at hv
      rw [← hv, Nat.add_assoc]
  · (simp only [decide_eq_true_eq, decide_eq_false_iff_not, Bool.not_eq_true', Bool.not_eq_false'] at h)
    have : s.drop (n + k) = [] := List.drop_eq_nil_of_le (by omega)
    rw [this] at hv
    have : textL out k [] = .error (11, 0) := rfl
    rw [this] at hv
    rw [← hv]; exact fbad (by omega)
theorem raction_ev (s : List Int) (i : Int) (n : Nat) (e : i = n) (hn : n < s.length) (hl : s.length ≤ 1000000) (hc : s.getD n 0 = 123) :
    E 43 [.tv [] .str s, .tv [] (.int .i64) i] [] (.tv [] tF (foundR n 9 (actK (s.drop n)))) [] := by
  subst e
  refine ev_of (vc43 s n _ ?_)
  refine ⟨fun d z _ _ _ _ _ => ∃ k : Nat, z = ((n + k : Nat) : Int) ∧ n + k ≤ s.length ∧ (0 < k → 0 < d) ∧ d ≤ 4 ∧ (k = 0 → d = 0) ∧ actL (s.drop n) d k (s.drop (n + k)) = actK (s.drop n), fun _ z _ _ _ _ _ => (s.length - z).toNat, ⟨0, by omega, by omega, by omega, by omega, by omega, by simp [actK]⟩, ?_⟩
  rintro d z _ _ _ _ _ ⟨k, rfl, hk, hd1, hd2, hd3, hv⟩
  have hcc : k = 0 → s.getD (n + k) 0 = 123 := by rintro rfl; exact hc
  refine ⟨fun h => ?_, fun h => ⟨_, _, _, _, _, ⟨rbad_ev _ _⟩, ?_⟩⟩
  · (simp only [decide_eq_true_eq, decide_eq_false_iff_not, Bool.not_eq_true', Bool.not_eq_false'] at h)
    have hn' : n + k < s.length := by omega
    rw [drop_cons (0 : Int) hn', actL] at hv
    rw [Int.toNat_natCast]
    refine ⟨⟨by omega⟩, fun h1 => ⟨⟨by omega⟩, fun h2 => ⟨_, _, _, _, _, ⟨rbad_ev _ _⟩, ?_⟩, fun h2 => ⟨⟨by omega⟩, fun h3 => ?_, fun h3 => ⟨fun h4 => ?_, fun h4 => ⟨⟨by omega⟩, ⟨k + 1, by omega, by omega, ?_, ?_, by omega, ?_⟩, ⟨by ((try dsimp only); omega)⟩⟩⟩⟩⟩, fun h1 => ⟨fun h2 => ?_, fun h2 => ⟨⟨by omega⟩, fun h3 => ⟨⟨by omega⟩, fun h4 => ⟨⟨by omega⟩, ⟨by omega⟩, fun h5 => ⟨_, _, _, _, _, ⟨rbad_ev _ _⟩, ?_⟩, fun h5 => ⟨⟨by omega⟩, ⟨?_⟩, ⟨by omega⟩, ?_⟩⟩, fun h4 => ⟨⟨by omega⟩, ⟨k + 1, by omega, by omega, ?_, ?_, by omega, ?_⟩, ⟨by ((try dsimp only); omega)⟩⟩⟩, fun h3 => ⟨fun h4 => ?_, fun h4 => ⟨⟨by omega⟩, ⟨k + 1, by omega, by omega, ?_, by omega, by omega, ?_⟩, ⟨by ((try dsimp only); omega)⟩⟩⟩⟩⟩⟩
    all_goals simp only [decide_eq_true_eq, decide_eq_false_iff_not] at *
    · rw [if_pos h1, if_pos h2] at hv
      rw [← hv]; exact ⟨(fbad (by omega)).1, by trivial⟩
    · exfalso; omega
    · exfalso
      rcases Nat.eq_zero_or_pos k with h0 | h0
      · have := hd3 h0; omega
      · have := hd1 h0; omega
    · intro _
      rcases Nat.eq_zero_or_pos k with h0 | h0
      · have := hd3 h0; omega
      · have := hd1 h0; omega
    · omega
    · rw [if_pos h1, if_neg h2] at hv
      rw [← hv, Nat.add_assoc]
    · exfalso; omega
    · have hk0 : k ≠ 0 := fun h0 => h1 (hcc h0)
      rw [if_neg h1, if_pos h3, if_neg (show ¬ 0 < d - 1 by omega), if_pos (show 200 < (k : Int) - 1 by omega)] at hv
      rw [← hv]; exact ⟨(fbad (by omega)).1, by trivial⟩
    · have hk0 : k ≠ 0 := fun h0 => h1 (hcc h0)
      omega
    · have hk0 : k ≠ 0 := fun h0 => h1 (hcc h0)
      rw [if_neg h1, if_pos h3, if_neg (show ¬ 0 < d - 1 by omega), if_neg (show ¬ 200 < (k : Int) - 1 by omega)] at hv
      have e2 : cut s (Int.toNat ((n : Int) + 1)) (n + k) = ((s.drop n).take k).drop 1 := by
        have : Int.toNat ((n : Int) + 1) = n + 1 := by omega
        rw [this]
        unfold cut
        rw [List.drop_take, List.drop_take, List.drop_drop]
        congr 1; omega
      rw [← hv, e2]; exact ⟨(fok (by omega)).1, by trivial⟩
    · have hk0 : k ≠ 0 := fun h0 => h1 (hcc h0)
      intro _; have := hd1 (by omega); omega
    · omega
    · have hk0 : k ≠ 0 := fun h0 => h1 (hcc h0)
      have := hd1 (by omega)
      rw [if_neg h1, if_pos h3, if_pos (show 0 < d - 1 by omega)] at hv
      rw [← hv, Nat.add_assoc]
    · exfalso
      have hk0 : k ≠ 0 := fun h0 => h1 (hcc h0)
      have := hd1 (by omega); omega
    · have hk0 : k ≠ 0 := fun h0 => h1 (hcc h0)
      intro _; have := hd1 (by omega); omega
    · rw [if_neg h1, if_neg h3] at hv
      rw [← hv, Nat.add_assoc]
  · (simp only [decide_eq_true_eq, decide_eq_false_iff_not, Bool.not_eq_true', Bool.not_eq_false'] at h)
    have : s.drop (n + k) = [] := List.drop_eq_nil_of_le (by omega)
    rw [this] at hv
    simp only [actL] at hv
    rw [← hv]; exact ⟨(fbad (by omega)).1, by trivial⟩
end Go.Am.L
