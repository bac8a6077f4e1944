/-
  A part of the proof of a law: see the text that states it.
-/
import Derived.Test.YtpbabncglokikaaDoorQ1
set_option linter.all false
namespace Go.Am.L
open Go Go.Am.Pr
set_option maxRecDepth 100000
theorem rangeLoop (y last : Int) (has : List Bool) (z5 z7 : Int) (z8 : List Int) (z9 z10 z11 : Int) (X : Int → List Bool → Int → List Int → Int → Int → Int → Prop)
    (h5 : z5 = 0) (hh : has.length = 256) (hy : 0 ≤ y ∧ y < 256) (hl : 0 ≤ last ∧ last ≤ y)
    (hX : ∀ b c d e f g h, b = 0 → h = rangeSet has last.toNat (y + 1 - last).toNat → X b h c d e f g) :
    ∃ I : Int → Int → List Bool → Int → List Int → Int → Int → Int → Prop, ∃ m : Int → Int → List Bool → Int → List Int → Int → Int → Int → Nat, Need (List.length has = List.length has) ∧ (I last ((Int.toNat z5 : Nat) : Int) has z7 z8 z9 z10 z11 ∧
      (∀ a b h c d e f g, I a b h c d e f g → (Need (((-9223372036854775808 : Int) ≤ y) ∧ (y ≤ (9223372036854775807 : Int))) ∧
        (((decide (a ≤ y) = true) → (Need (((0 : Int) ≤ a) ∧ (a < (256 : Int))) ∧ (Need (Int.toNat b = 0) ∧ (Need ((0 + Int.toNat a) < List.length h) ∧ (Need (((-9223372036854775808 : Int) ≤ (a + (1 : Int))) ∧ ((a + (1 : Int)) ≤ (9223372036854775807 : Int))) ∧
          (Need (List.length h = List.length (List.set h (0 + Int.toNat a) true)) ∧ (I (a + (1 : Int)) ((Int.toNat b : Nat) : Int) (List.set h (0 + Int.toNat a) true) c d e f g ∧ Need (m (a + (1 : Int)) ((Int.toNat b : Nat) : Int) (List.set h (0 + Int.toNat a) true) c d e f g < m a b h c d e f g)))))))) ∧
        ((decide (a ≤ y) = false) → (Need (List.length h = List.length h) ∧ X b h c d e f g)))))) := by
  subst h5
  refine ⟨fun a b h _ _ _ _ _ => ∃ j : Nat, a = j ∧ b = 0 ∧ h.length = 256 ∧ (j : Int) ≤ y + 1 ∧ rangeSet h j (y + 1 - j).toNat = rangeSet has last.toNat (y + 1 - last).toNat, fun a _ _ _ _ _ _ _ => (256 - a).toNat, ⟨rfl⟩, ⟨last.toNat, by omega, by simp, hh, by omega, by rw [Int.toNat_of_nonneg (by omega)]⟩, ?_⟩
  rintro _ _ h c d e f g ⟨j, rfl, rfl, hh', hj, hr⟩
  refine ⟨⟨by omega⟩, fun h9 => ?_, fun h9 => ?_⟩
  · (simp only [decide_eq_true_eq, decide_eq_false_iff_not, Bool.not_eq_true', Bool.not_eq_false'] at h9)
    refine ⟨⟨by omega⟩, ⟨by simp⟩, ⟨by omega⟩, ⟨by omega⟩, ⟨by simp⟩, ⟨j + 1, by omega, by simp, by simpa using hh', by omega, ?_⟩, ⟨by ((try dsimp only); omega)⟩⟩
    have : (y + 1 - (j : Int)).toNat = (y + 1 - ((j + 1 : Nat) : Int)).toNat + 1 := by omega
    rw [this, rangeSet] at hr
    rw [Int.toNat_natCast, Nat.zero_add]; exact hr
  · (simp only [decide_eq_true_eq, decide_eq_false_iff_not, Bool.not_eq_true', Bool.not_eq_false'] at h9)
    have : (y + 1 - (j : Int)).toNat = 0 := by omega
    rw [this, rangeSet] at hr
    exact ⟨⟨rfl⟩, hX _ _ _ _ _ _ _ rfl hr⟩
theorem memLoop (has : List Bool) (z5 z7 : Int) (z8 : List Int) (z9 z10 z11 : Int) (Z : List Int → Prop) (h5 : z5 = 0) (hh : has.length = 256) (hZ : ∀ l, l = memF 0 has → Z l) :
    ∃ I : List Int → Int → Int → List Bool → Int → List Int → Int → Int → Int → Prop, ∃ m : List Int → Int → Int → List Bool → Int → List Int → Int → Int → Int → Nat, Need (List.length has = List.length has) ∧ (I [] (0 : Int) ((Int.toNat z5 : Nat) : Int) has z7 z8 z9 z10 z11 ∧
      (∀ o a b h c d e f g, I o a b h c d e f g → (((decide (a < (256 : Int)) = true) → (Need (((0 : Int) ≤ a) ∧ (a < (256 : Int))) ∧ (Need (Int.toNat b = 0) ∧ (Need ((0 + Int.toNat a) < List.length h) ∧
        (((List.getD h (0 + Int.toNat a) false = true) → (Need (((0 : Int) ≤ a) ∧ (a ≤ (255 : Int))) ∧ (Need ((List.length o + List.length [a]) ≤ bigN) ∧ (Need (((-9223372036854775808 : Int) ≤ (a + (1 : Int))) ∧ ((a + (1 : Int)) ≤ (9223372036854775807 : Int))) ∧ (Need (List.length h = List.length h) ∧
          (I (o ++ [a]) (a + (1 : Int)) ((Int.toNat b : Nat) : Int) h c d e f g ∧ Need (m (o ++ [a]) (a + (1 : Int)) ((Int.toNat b : Nat) : Int) h c d e f g < m o a b h c d e f g))))))) ∧
        ((List.getD h (0 + Int.toNat a) false = false) → (Need (((-9223372036854775808 : Int) ≤ (a + (1 : Int))) ∧ ((a + (1 : Int)) ≤ (9223372036854775807 : Int))) ∧ (Need (List.length h = List.length h) ∧
          (I o (a + (1 : Int)) ((Int.toNat b : Nat) : Int) h c d e f g ∧ Need (m o (a + (1 : Int)) ((Int.toNat b : Nat) : Int) h c d e f g < m o a b h c d e f g))))))))) ) ∧
        ((decide (a < (256 : Int)) = false) → Z o)))) := by
  subst h5
  have hb : (1000000 : Nat) ≤ bigN := by decide
  generalize bigN = big at hb ⊢
  refine ⟨fun o a b h _ _ _ _ _ => ∃ j : Nat, a = j ∧ b = 0 ∧ h = has ∧ o.length ≤ j ∧ j ≤ 256 ∧ o ++ memF j (has.drop j) = memF 0 has, fun _ a _ _ _ _ _ _ _ => (256 - a).toNat, ⟨rfl⟩, ⟨0, rfl, by simp, rfl, by simp, by omega, by simp⟩, ?_⟩
  rintro o _ _ h c d e f g ⟨j, rfl, rfl, rfl, ho, hj, hv⟩
  refine ⟨fun h9 => ?_, fun h9 => ?_⟩
  · (simp only [decide_eq_true_eq, decide_eq_false_iff_not, Bool.not_eq_true', Bool.not_eq_false'] at h9)
    have hj' : j < h.length := by omega
    rw [drop_cons false hj', memF] at hv
    rw [Int.toNat_natCast, Nat.zero_add]
    refine ⟨⟨by omega⟩, ⟨by simp⟩, ⟨by omega⟩, fun hb => ⟨⟨by omega⟩, ⟨by simp only [List.length_cons, List.length_nil]; omega⟩, ⟨by omega⟩, ⟨rfl⟩, ⟨j + 1, by omega, by simp, rfl, by simp; omega, by omega, ?_⟩, ⟨by ((try dsimp only); omega)⟩⟩, fun hb => ⟨⟨by omega⟩, ⟨rfl⟩, ⟨j + 1, by omega, by simp, rfl, by omega, by omega, ?_⟩, ⟨by ((try dsimp only); omega)⟩⟩⟩
    · rw [hb, if_pos rfl] at hv
      rw [← hv]; simp
    · rw [hb, if_neg (by decide)] at hv
      exact hv
  · (simp only [decide_eq_true_eq, decide_eq_false_iff_not, Bool.not_eq_true', Bool.not_eq_false'] at h9)
    apply hZ
    rw [List.drop_eq_nil_of_le (by omega)] at hv
    rw [← hv]; simp [memF]
theorem rclass_ev (s : List Int) (i : Int) (n : Nat) (e : i = n) (hn : n < s.length) (hl : s.length ≤ 1000000) (hs : ∀ c ∈ s, 0 ≤ c ∧ c < 256) :
    E 42 [.tv [] .str s, .tv [] (.int .i64) i] [] (.tv [] tF (foundR n 4 (clsK (s.drop n)))) [] := by
  subst e
  refine ev_of (vc42 s n _ ?_)
  refine ⟨⟨by omega⟩, ⟨by omega⟩, fun sm last z γ has _ _ _ _ _ => ∃ f k : Nat, γ = 0 ∧ z = ((n + k : Nat) : Int) ∧ has.length = 256 ∧ -1 ≤ last ∧ last < 256 ∧ s.length < n + k + f ∧ n + k ≤ s.length ∧ clsL f sm last has k (s.drop (n + k)) = clsK (s.drop n), fun _ _ z _ _ _ _ _ _ _ => (s.length - z).toNat, ⟨rfl⟩, ⟨s.length - n, 1, rfl, by omega, by simp, by omega, by omega, by omega, by omega, by simp [clsK, List.tail_drop]⟩, ?_⟩
  rintro sm last z _ has z7 z8 z9 z10 z11 ⟨f, k, rfl, rfl, hh, hl1, hl2, hf, hk, hv⟩
  refine ⟨fun h => ?_, fun h => ⟨_, _, _, _, _, ⟨rbad_ev _ _⟩, ?_⟩⟩
  · (simp only [decide_eq_true_eq, decide_eq_false_iff_not, Bool.not_eq_true', Bool.not_eq_false'] at h)
    have hn' : n + k < s.length := by omega
    obtain ⟨f, rfl⟩ : ∃ g, f = g + 1 := ⟨f - 1, by omega⟩
    have hd := drop_cons (0 : Int) hn'
    have hbt := hs _ (getD_mem' 0 hn')
    rw [hd, clsL_cons] at hv
    rw [Int.toNat_natCast]
    generalize hC : s.getD (n + k) 0 = C at *
    refine ⟨⟨by omega⟩, fun h1 => ⟨⟨by omega⟩, fun h2 => ⟨fun h3 => ⟨_, _, _, _, _, ⟨rbad_ev _ _⟩, ?_⟩, fun h3 => memLoop has 0 z7 z8 z9 z10 z11 _ rfl hh (fun l hlm => ⟨⟨by omega⟩, ?_⟩)⟩, fun h2 => ⟨⟨by omega⟩, fun h3 => ⟨fun h4 => ⟨_, _, _, _, _, ⟨rbad_ev _ _⟩, ?_⟩, fun h4 => ⟨⟨by omega⟩, fun h5 => ⟨_, _, _, _, _, ⟨rbad_ev _ _⟩, ?_⟩, fun h5 => ?_⟩⟩, fun h3 => ?_⟩⟩, fun h1 => ⟨_, _, _, _, _, ⟨rbad_ev _ _⟩, ?_⟩⟩
    all_goals simp only [decide_eq_true_eq, decide_eq_false_iff_not, ne_eq, Decidable.not_not] at h1
    · simp only [decide_eq_true_eq, Bool.not_eq_true'] at h2 h3
      rw [if_neg h1, if_pos h2, if_pos h3] at hv
      rw [← hv]; exact fbad (by omega)
    · simp only [decide_eq_true_eq, Bool.not_eq_false'] at h2 h3
      rw [if_neg h1, if_pos h2, if_neg (by rw [h3]; decide)] at hv
      rw [← hv, hlm]; exact fok (by omega)
    · simp only [decide_eq_true_eq, decide_eq_false_iff_not] at h2 h3 h4
      rw [if_neg h1, if_neg h2, if_pos h3, if_pos h4] at hv
      rw [← hv]; exact fbad (by omega)
    · simp only [decide_eq_true_eq, decide_eq_false_iff_not] at h2 h3 h4 h5
      have : s.drop (n + k + 1) = [] := List.drop_eq_nil_of_le (by omega)
      rw [if_neg h1, if_neg h2, if_pos h3, if_neg h4, this] at hv
      rw [← hv]; exact fbad (by omega)
    · simp only [decide_eq_true_eq, decide_eq_false_iff_not] at h2 h3 h4 h5
      have hn2 : n + k + 1 < s.length := by omega
      have e1 : Int.toNat (((n + k : Nat) : Int) + 1) = n + k + 1 := by omega
      have hd2 := drop_cons (0 : Int) hn2
      have hbt2 := hs _ (getD_mem' 0 hn2)
      have ht := told_ev s (((n + k : Nat) : Int) + 1) (n + k + 1) (by omega) true hl hn2
      have hm : mayOf true = mayC := rfl
      rw [hm] at ht
      rw [if_neg h1, if_neg h2, if_pos h3, if_neg h4, hd2] at hv
      rw [e1]
      generalize hD : s.getD (n + k + 1) 0 = D at *
      have yes : ∀ {P : Prop}, decide (C = (45 : Int)) = false → P := fun g => absurd h3 (of_decide_eq_false g)
      have loop : ∀ (y : Int) (m : Nat) (zz : Int), zz = ((n + k + 1 + m : Nat) : Int) → 0 ≤ y ∧ y < 256 → ¬ y < last → 1 ≤ m → n + k + 1 + m ≤ s.length → clsL f sm (-1) (rangeSet has last.toNat (y + 1 - last).toNat) (k + 1 + m) ((D :: s.drop (n + k + 1 + 1)).drop m) = clsK (s.drop n) →
          ∀ (b : Int) (h : List Bool), b = 0 → h = rangeSet has last.toNat (y + 1 - last).toNat → (∃ f k : Nat, ((Int.toNat b : Nat) : Int) = 0 ∧ zz = ((n + k : Nat) : Int) ∧ h.length = 256 ∧ -1 ≤ (-1 : Int) ∧ (-1 : Int) < 256 ∧ s.length < n + k + f ∧ n + k ≤ s.length ∧ clsL f sm (-1) h k (s.drop (n + k)) = clsK (s.drop n)) ∧ (s.length - zz).toNat < (s.length - ((n + k : Nat) : Int)).toNat := by
        rintro y m zz rfl hy hyl hm1 hm2 hv2 b h rfl rfl
        refine ⟨⟨f, k + 1 + m, rfl, by omega, by rw [rangeSet_len]; exact hh, by omega, by omega, by omega, by omega, ?_⟩, by omega⟩
        rw [← hv2, ← hd2, List.drop_drop]
        congr 1; congr 1; omega
      refine ⟨⟨by omega⟩, fun h6 => ⟨_, _, _, _, _, ⟨rbad_ev _ _⟩, ?_⟩, fun h6 => ⟨⟨by omega⟩, fun h7 => ⟨_, _, _, _, _, ⟨rbad_ev _ _⟩, ?_⟩, fun h7 => ⟨⟨by omega⟩, ⟨by omega⟩, fun h8 => ?_, fun h8 => ⟨fun _ => ⟨⟨by omega⟩, fun h9 => ⟨_, _, _, _, _, ⟨rbad_ev _ _⟩, ?_⟩, fun h9 => ⟨fun _ => ?_, yes⟩⟩, yes⟩⟩⟩⟩
      all_goals simp only [decide_eq_true_eq, decide_eq_false_iff_not] at h6
      · simp only [if_pos h6] at hv
        rw [← hv]; exact fbad (by omega)
      · simp only [decide_eq_true_eq] at h7
        simp only [if_neg h6, if_pos h7] at hv
        rw [← hv]; exact fbad (by omega)
      · simp only [decide_eq_true_eq, decide_eq_false_iff_not] at h7 h8
        simp only [if_neg h6, if_neg h7, oneS, if_pos h8] at hv
        generalize hx : escS mayC (s.drop (n + k + 1 + 1)) = x at hv ht
        cases x with
        | none =>
          simp only [Option.map_none] at hv
          exact ⟨_, _, ⟨ht⟩, fun _ => ⟨_, _, _, _, _, ⟨rbad_ev _ _⟩, by rw [← hv]; exact fbad (by omega)⟩, nofun⟩
        | some y =>
          simp only [Option.map_some] at hv
          simp only [toldO] at ht
          obtain ⟨hy, hne⟩ := escS_byte hx
          have : 0 < (s.drop (n + k + 1 + 1)).length := List.length_pos_iff.2 hne
          rw [List.length_drop] at this
          refine ⟨_, _, ⟨ht⟩, nofun, fun _ => ⟨⟨by omega⟩, fun _ => ⟨⟨by omega⟩, fun h9 => ⟨_, _, _, _, _, ⟨rbad_ev _ _⟩, ?_⟩, fun h9 => ⟨fun _ => ?_, yes⟩⟩, yes⟩⟩
          · simp only [decide_eq_true_eq] at h9
            rw [if_pos h9] at hv
            rw [← hv]; exact fbad (by omega)
          · simp only [decide_eq_false_iff_not] at h9
            rw [if_neg h9] at hv
            refine rangeLoop y last has 0 z7 z8 z9 z10 z11 _ rfl hh hy (by omega) (fun b c d e f' g h hb hr => ?_)
            have := loop y 2 (((n + k : Nat) : Int) + 1 + 2) (by omega) hy h9 (by omega) (by omega) hv b h hb hr
            exact ⟨this.1, ⟨this.2⟩⟩
      · simp only [decide_eq_true_eq, decide_eq_false_iff_not] at h7 h8 h9
        simp only [if_neg h6, if_neg h7, oneS, if_neg h8, if_pos h9] at hv
        rw [← hv]; exact fbad (by omega)
      · simp only [decide_eq_true_eq, decide_eq_false_iff_not] at h7 h8 h9
        simp only [if_neg h6, if_neg h7, oneS, if_neg h8, if_neg h9] at hv
        refine rangeLoop D last has 0 z7 z8 z9 z10 z11 _ rfl hh hbt2 (by omega) (fun b c d e f' g h hb hr => ?_)
        have := loop D 1 (((n + k : Nat) : Int) + 1 + 1) (by omega) hbt2 h9 (by omega) (by omega) hv b h hb hr
        exact ⟨this.1, ⟨this.2⟩⟩
    · simp only [decide_eq_true_eq, decide_eq_false_iff_not] at h2 h3
      have ht := told_ev s ((n + k : Nat) : Int) (n + k) rfl true hl hn'
      have hm : mayOf true = mayC := rfl
      rw [hm] at ht
      rw [if_neg h1, if_neg h2, if_neg h3] at hv
      have no : ∀ {P : Prop}, decide (C = (45 : Int)) = true → P := fun g => absurd (of_decide_eq_true g) h3
      have step : ∀ (y : Int) (m : Nat), 0 ≤ y ∧ y < 256 → 1 ≤ m → n + k + m ≤ s.length → clsL f true y (has.set y.toNat true) (k + m) ((C :: s.drop (n + k + 1)).drop m) = clsK (s.drop n) →
          ∃ f k' : Nat, ((Int.toNat 0 : Nat) : Int) = 0 ∧ ((n + k : Nat) : Int) + m = ((n + k' : Nat) : Int) ∧ (has.set (0 + y.toNat) true).length = 256 ∧ -1 ≤ y ∧ y < 256 ∧ s.length < n + k' + f ∧ n + k' ≤ s.length ∧ clsL f true y (has.set (0 + y.toNat) true) k' (s.drop (n + k')) = clsK (s.drop n) := by
        intro y m hy hm1 hm2 hv2
        refine ⟨f, k + m, rfl, by omega, by simpa using hh, by omega, by omega, by omega, by omega, ?_⟩
        rw [← hv2, ← hd, List.drop_drop, Nat.zero_add, Nat.add_assoc]
      refine ⟨⟨by omega⟩, ⟨by omega⟩, fun h8 => ?_, fun h8 => ⟨no, fun _ => ⟨no, fun _ => ⟨⟨by omega⟩, ⟨by simp⟩, ⟨by omega⟩, ⟨by omega⟩, ⟨by simp⟩, ?_, ⟨by ((try dsimp only); omega)⟩⟩⟩⟩⟩
      · simp only [decide_eq_true_eq] at h8
        simp only [oneS, if_pos h8] at hv
        generalize hx : escS mayC (s.drop (n + k + 1)) = x at hv ht
        cases x with
        | none =>
          simp only [Option.map_none] at hv
          exact ⟨_, _, ⟨ht⟩, fun _ => ⟨_, _, _, _, _, ⟨rbad_ev _ _⟩, by rw [← hv]; exact fbad (by omega)⟩, nofun⟩
        | some y =>
          simp only [Option.map_some] at hv
          simp only [toldO] at ht
          obtain ⟨hy, hne⟩ := escS_byte hx
          have : 0 < (s.drop (n + k + 1)).length := List.length_pos_iff.2 hne
          rw [List.length_drop] at this
          refine ⟨_, _, ⟨ht⟩, nofun, fun _ => ⟨⟨by omega⟩, no, fun _ => ⟨no, fun _ => ⟨⟨by omega⟩, ⟨by simp⟩, ⟨by omega⟩, ⟨by omega⟩, ⟨by simp⟩, ?_, ⟨by ((try dsimp only); omega)⟩⟩⟩⟩⟩
          exact step y 2 hy (by omega) (by omega) hv
      · simp only [decide_eq_false_iff_not] at h8
        simp only [oneS, if_neg h8] at hv
        exact step C 1 hbt (by omega) (by omega) hv
    · rw [if_pos h1] at hv
      rw [← hv]; exact fbad (by omega)
  · (simp only [decide_eq_true_eq, decide_eq_false_iff_not, Bool.not_eq_true', Bool.not_eq_false'] at h)
    have : s.drop (n + k) = [] := List.drop_eq_nil_of_le (by omega)
    rw [this] at hv
    have : clsL f sm last has k [] = .error (11, 0) := by cases f <;> rfl
    rw [this] at hv
    rw [← hv]; exact fbad (by omega)
end Go.Am.L
