/-
  A part of the proof of a law: see the text that states it.
-/
import Derived.Test.YtpbabncglokikaaDoorQ3
set_option linter.all false
namespace Go.Am.L
open Go Go.Am.Pr
set_option maxRecDepth 100000
theorem search (t : List Int) (z2 : Int) (z3 : List Int) (z4 z5 z6 : Int) (A B : Prop) (hA : t ∈ L.wordsL → A) (hB : t ∉ L.wordsL → B) :
    ∃ I : Int → Int → List Int → Int → Int → Int → Prop, ∃ m : Int → Int → List Int → Int → Int → Int → Nat, I (0 : Int) z2 z3 z4 z5 z6 ∧ (∀ a b c d e f, I a b c d e f →
      (((decide (a < ((List.length L.wordsL : Nat) : Int)) = true) → (Need (((0 : Int) ≤ a) ∧ (a < ((List.length L.wordsL : Nat) : Int))) ∧
        (((decide (List.getD L.wordsL (Int.toNat a) [] = t) = true) → A) ∧ ((decide (List.getD L.wordsL (Int.toNat a) [] = t) = false) → (Need (((-9223372036854775808 : Int) ≤ (a + (1 : Int))) ∧ ((a + (1 : Int)) ≤ (9223372036854775807 : Int))) ∧
          (I (a + (1 : Int)) b c d e f ∧ Need (m (a + (1 : Int)) b c d e f < m a b c d e f))))))) ∧
       ((decide (a < ((List.length L.wordsL : Nat) : Int)) = false) → B))) := by
  have hl : L.wordsL.length = 8 := rfl
  generalize L.wordsL = w at *
  refine ⟨fun a _ _ _ _ _ => ∃ j : Nat, a = j ∧ j ≤ w.length ∧ t ∉ w.take j, fun a _ _ _ _ _ => (w.length - a).toNat, ⟨0, rfl, by omega, by simp⟩, ?_⟩
  rintro _ b c d e f ⟨j, rfl, hj, hn⟩
  rw [Int.toNat_natCast]
  refine ⟨fun h => ⟨⟨?_⟩, fun g => ?_, fun g => ⟨⟨?_⟩, ⟨j + 1, by omega, ?_, ?_⟩, ⟨?_⟩⟩⟩, fun h => ?_⟩
  · (simp only [decide_eq_true_eq, decide_eq_false_iff_not, Bool.not_eq_true', Bool.not_eq_false'] at h); omega
  · (simp only [decide_eq_true_eq, decide_eq_false_iff_not, Bool.not_eq_true', Bool.not_eq_false'] at h); (simp only [decide_eq_true_eq, decide_eq_false_iff_not, Bool.not_eq_true', Bool.not_eq_false'] at g)
    rw [← g] at hA
    exact hA (getD_mem' [] (by omega))
  · (simp only [decide_eq_true_eq, decide_eq_false_iff_not, Bool.not_eq_true', Bool.not_eq_false'] at h); omega
  · (simp only [decide_eq_true_eq, decide_eq_false_iff_not, Bool.not_eq_true', Bool.not_eq_false'] at h); omega
  · (simp only [decide_eq_true_eq, decide_eq_false_iff_not, Bool.not_eq_true', Bool.not_eq_false'] at h); (simp only [decide_eq_true_eq, decide_eq_false_iff_not, Bool.not_eq_true', Bool.not_eq_false'] at g)
    rw [take_snoc [] (show j < w.length by omega)]
    intro hm
    rcases List.mem_append.1 hm with hm | hm
    · exact hn hm
    · exact g (List.mem_singleton.1 hm).symm
  · (simp only [decide_eq_true_eq, decide_eq_false_iff_not, Bool.not_eq_true', Bool.not_eq_false'] at h); dsimp only; omega
  · (simp only [decide_eq_true_eq, decide_eq_false_iff_not, Bool.not_eq_true', Bool.not_eq_false'] at h)
    apply hB
    rwa [List.take_of_length_le (by omega)] at hn
theorem runK_stop (p : Int → Bool) {l : List Int} {c : Int} {r : List Int} (h : l = c :: r) (hp : p c = false) : runK p l = 0 := by rw [h, runK, if_neg (by simp [hp])]
theorem runK_go (p : Int → Bool) {l : List Int} {c : Int} {r : List Int} (h : l = c :: r) (hp : p c = true) : runK p l = runK p r + 1 := by rw [h, runK, if_pos hp]
theorem lower_t {c : Int} (h : 97 ≤ c ∧ c ≤ 122) : lowerK c = true := by simp [lowerK]; omega
theorem lower_f {c : Int} (h : ¬ (97 ≤ c ∧ c ≤ 122)) : lowerK c = false := by simp [lowerK]; omega
theorem rword_ev (s : List Int) (i : Int) (n : Nat) (e : i = n) (hn : n < s.length) (hl : s.length ≤ 1000000) :
    E 40 [.tv [] .str s, .tv [] (.int .i64) i] [] (.tv [] tF (foundR n 2 (wordK (s.drop n)))) [] := by
  subst e
  have hw37 : (s.drop (n + 1)).head? = some 37 → wordK (s.drop n) = .ok ([37], 1 + 1) := by
    intro h
    unfold wordK
    rw [List.tail_drop, if_pos h]
    cases hx : s.drop (n + 1) with
    | nil => rw [hx] at h; cases h
    | cons c r =>
      rw [hx] at h; cases h
      exact if_pos (show [(37 : Int)] ∈ L.wordsL by decide)
  have hw : ¬ (s.drop (n + 1)).head? = some 37 → ∀ j, runK lowerK (s.drop (n + 1)) = j → wordK (s.drop n) = if (s.drop (n + 1)).take j ∈ L.wordsL then .ok ((s.drop (n + 1)).take j, 1 + j) else .error (10, 0) := by
    intro h j hj
    unfold wordK
    rw [List.tail_drop, if_neg h, hj]
  have hb : (1000002 : Nat) ≤ bigN := by decide
  refine ev_of (vc40 s n _ ?_)
  generalize bigN = big at hb ⊢
  have e1 : Int.toNat ((n : Int) + 1) = n + 1 := by omega
  have fin : ¬ (s.drop (n + 1)).head? = some 37 → ∀ j, n + 1 + j ≤ s.length → runK lowerK (s.drop (n + 1)) = j →
      ((s.drop (n + 1)).take j).length = j ∧ ((s.drop (n + 1)).take j ∈ L.wordsL → foundR n 2 (wordK (s.drop n)) = (2, (s.drop (n + 1)).take j, (n : Int) + 1 + ((((s.drop (n + 1)).take j).length : Nat) : Int), 0, 0, ())) ∧ ((s.drop (n + 1)).take j ∉ L.wordsL → foundR n 2 (wordK (s.drop n)) = (0, [], 0, 10, (n : Int), ())) := by
    intro h37 j hj hr
    have hlen : ((s.drop (n + 1)).take j).length = j := by rw [List.length_take, List.length_drop]; omega
    rw [hw h37 j hr]
    refine ⟨hlen, fun hm => ?_, fun hm => ?_⟩
    · rw [if_pos hm, hlen]
      unfold foundR
      simp only
      rw [show (n : Int) + ((1 + j : Nat) : Int) = (n : Int) + 1 + (j : Int) by omega]
    · rw [if_neg hm]
      unfold foundR
      simp only
      rw [show (n : Int) + ((0 : Nat) : Int) = (n : Int) by omega]
  refine ⟨⟨by omega⟩, fun h => ⟨⟨by omega⟩, ⟨by (simp only [decide_eq_true_eq, decide_eq_false_iff_not, Bool.not_eq_true', Bool.not_eq_false'] at h); omega⟩, fun g => ⟨_, ⟨words22_ev⟩, search [37] 0 [] 0 0 0 _ _ (fun _ => ⟨⟨by omega⟩, ⟨by omega⟩, ?_⟩) (fun hm => absurd (show [(37 : Int)] ∈ L.wordsL by decide) hm)⟩, fun g => ⟨⟨by omega⟩, ?_⟩⟩, fun h => ⟨⟨by omega⟩, ?_⟩⟩
  · (simp only [decide_eq_true_eq, decide_eq_false_iff_not, Bool.not_eq_true', Bool.not_eq_false'] at h); (simp only [decide_eq_true_eq, decide_eq_false_iff_not, Bool.not_eq_true', Bool.not_eq_false'] at g)
    rw [e1] at g
    have : (s.drop (n + 1)).head? = some 37 := by rw [drop_cons (0 : Int) (show n + 1 < s.length by omega), g]; rfl
    rw [hw37 this]
    exact fok (by omega)
  · (simp only [decide_eq_true_eq, decide_eq_false_iff_not, Bool.not_eq_true', Bool.not_eq_false'] at h); (simp only [decide_eq_true_eq, decide_eq_false_iff_not, Bool.not_eq_true', Bool.not_eq_false'] at g)
    rw [e1] at g
    have h37 : ¬ (s.drop (n + 1)).head? = some 37 := by rw [drop_cons (0 : Int) (show n + 1 < s.length by omega)]; simpa using g
    have fin := fin h37
    refine ⟨fun t z _ _ _ _ _ => ∃ j : Nat, z = ((n + 1 + j : Nat) : Int) ∧ n + 1 + j ≤ s.length ∧ t = (s.drop (n + 1)).take j ∧ runK lowerK (s.drop (n + 1)) = j + runK lowerK (s.drop (n + 1 + j)), fun _ z _ _ _ _ _ => (s.length - z).toNat, ⟨0, by omega, by omega, by simp, by simp⟩, ?_⟩
    rintro _ _ z28 z29 z30 z31 z32 ⟨j, rfl, hj, rfl, hr⟩
    have out : runK lowerK (s.drop (n + 1 + j)) = 0 → _ := fun h0 => fin j hj (by omega)
    have hlt : ((s.drop (n + 1)).take j).length ≤ j := by rw [List.length_take]; omega
    refine ⟨fun h2 => ⟨⟨?_⟩, fun h3 => ⟨⟨?_⟩, fun h4 => ⟨⟨by omega⟩, ⟨?_⟩, ⟨?_⟩, ⟨by omega⟩, ⟨j + 1, by omega, ?_, ?_, ?_⟩, ⟨?_⟩⟩, fun h4 => ⟨_, ⟨words22_ev⟩, search _ _ _ _ _ _ _ _ (fun hm => ⟨⟨by omega⟩, ⟨by omega⟩, ?_⟩) (fun hm => ⟨_, _, _, _, _, ⟨rbad_ev _ _⟩, ?_⟩)⟩⟩, fun h3 => ⟨_, ⟨words22_ev⟩, search _ _ _ _ _ _ _ _ (fun hm => ⟨⟨by omega⟩, ⟨by omega⟩, ?_⟩) (fun hm => ⟨_, _, _, _, _, ⟨rbad_ev _ _⟩, ?_⟩)⟩⟩, fun h2 => ⟨_, ⟨words22_ev⟩, search _ _ _ _ _ _ _ _ (fun hm => ⟨⟨by omega⟩, ⟨by omega⟩, ?_⟩) (fun hm => ⟨_, _, _, _, _, ⟨rbad_ev _ _⟩, ?_⟩)⟩⟩
    all_goals simp only [decide_eq_true_eq, decide_eq_false_iff_not] at h2
    · omega
    · omega
    · omega
    · have e2 : Int.toNat (((n + 1 + j : Nat) : Int) + 1) = n + 1 + j + 1 := by omega
      rw [Int.toNat_natCast, e2, cut1 s _ (by omega)]
      simp only [List.length_cons, List.length_nil]; omega
    · omega
    · have e2 : Int.toNat (((n + 1 + j : Nat) : Int) + 1) = n + 1 + j + 1 := by omega
      rw [Int.toNat_natCast, e2, cut1 s _ (by omega)]
      have hx : j < (s.drop (n + 1)).length := by rw [List.length_drop]; omega
      rw [take_snoc (0 : Int) hx]
      congr 2
      simp [List.getD_eq_getElem?_getD]
    · simp only [decide_eq_true_eq] at h3 h4
      rw [Int.toNat_natCast] at h3 h4
      have hd := drop_cons (0 : Int) (show n + 1 + j < s.length by omega)
      rw [runK_go lowerK hd (lower_t (by omega))] at hr
      rw [hr, Nat.add_assoc]; omega
    · dsimp only; omega
    · simp only [decide_eq_true_eq, decide_eq_false_iff_not] at h3 h4
      rw [Int.toNat_natCast] at h3 h4
      have hd := drop_cons (0 : Int) (show n + 1 + j < s.length by omega)
      exact ⟨by rw [(out (runK_stop lowerK hd (lower_f (by omega)))).2.1 hm], rfl⟩
    · simp only [decide_eq_true_eq, decide_eq_false_iff_not] at h3 h4
      rw [Int.toNat_natCast] at h3 h4
      have hd := drop_cons (0 : Int) (show n + 1 + j < s.length by omega)
      exact ⟨by rw [(out (runK_stop lowerK hd (lower_f (by omega)))).2.2 hm], rfl⟩
    · simp only [decide_eq_false_iff_not] at h3
      rw [Int.toNat_natCast] at h3
      have hd := drop_cons (0 : Int) (show n + 1 + j < s.length by omega)
      exact ⟨by rw [(out (runK_stop lowerK hd (lower_f (by omega)))).2.1 hm], rfl⟩
    · simp only [decide_eq_false_iff_not] at h3
      rw [Int.toNat_natCast] at h3
      have hd := drop_cons (0 : Int) (show n + 1 + j < s.length by omega)
      exact ⟨by rw [(out (runK_stop lowerK hd (lower_f (by omega)))).2.2 hm], rfl⟩
    · exact ⟨by rw [(out (by rw [List.drop_eq_nil_of_le (by omega)]; rfl)).2.1 hm], rfl⟩
    · exact ⟨by rw [(out (by rw [List.drop_eq_nil_of_le (by omega)]; rfl)).2.2 hm], rfl⟩
  · (simp only [decide_eq_true_eq, decide_eq_false_iff_not, Bool.not_eq_true', Bool.not_eq_false'] at h)
    have h37 : ¬ (s.drop (n + 1)).head? = some 37 := by rw [List.drop_eq_nil_of_le (by omega)]; simp
    have fin := fin h37
    refine ⟨fun t z _ _ _ _ _ => ∃ j : Nat, z = ((n + 1 + j : Nat) : Int) ∧ n + 1 + j ≤ s.length ∧ t = (s.drop (n + 1)).take j ∧ runK lowerK (s.drop (n + 1)) = j + runK lowerK (s.drop (n + 1 + j)), fun _ z _ _ _ _ _ => (s.length - z).toNat, ⟨0, by omega, by omega, by simp, by simp⟩, ?_⟩
    rintro _ _ z28 z29 z30 z31 z32 ⟨j, rfl, hj, rfl, hr⟩
    have out : runK lowerK (s.drop (n + 1 + j)) = 0 → _ := fun h0 => fin j hj (by omega)
    have hlt : ((s.drop (n + 1)).take j).length ≤ j := by rw [List.length_take]; omega
    refine ⟨fun h2 => ⟨⟨?_⟩, fun h3 => ⟨⟨?_⟩, fun h4 => ⟨⟨by omega⟩, ⟨?_⟩, ⟨?_⟩, ⟨by omega⟩, ⟨j + 1, by omega, ?_, ?_, ?_⟩, ⟨?_⟩⟩, fun h4 => ⟨_, ⟨words22_ev⟩, search _ _ _ _ _ _ _ _ (fun hm => ⟨⟨by omega⟩, ⟨by omega⟩, ?_⟩) (fun hm => ⟨_, _, _, _, _, ⟨rbad_ev _ _⟩, ?_⟩)⟩⟩, fun h3 => ⟨_, ⟨words22_ev⟩, search _ _ _ _ _ _ _ _ (fun hm => ⟨⟨by omega⟩, ⟨by omega⟩, ?_⟩) (fun hm => ⟨_, _, _, _, _, ⟨rbad_ev _ _⟩, ?_⟩)⟩⟩, fun h2 => ⟨_, ⟨words22_ev⟩, search _ _ _ _ _ _ _ _ (fun hm => ⟨⟨by omega⟩, ⟨by omega⟩, ?_⟩) (fun hm => ⟨_, _, _, _, _, ⟨rbad_ev _ _⟩, ?_⟩)⟩⟩
    all_goals simp only [decide_eq_true_eq, decide_eq_false_iff_not] at h2
    · omega
    · omega
    · omega
    · have e2 : Int.toNat (((n + 1 + j : Nat) : Int) + 1) = n + 1 + j + 1 := by omega
      rw [Int.toNat_natCast, e2, cut1 s _ (by omega)]
      simp only [List.length_cons, List.length_nil]; omega
    · omega
    · have e2 : Int.toNat (((n + 1 + j : Nat) : Int) + 1) = n + 1 + j + 1 := by omega
      rw [Int.toNat_natCast, e2, cut1 s _ (by omega)]
      have hx : j < (s.drop (n + 1)).length := by rw [List.length_drop]; omega
      rw [take_snoc (0 : Int) hx]
      congr 2
      simp [List.getD_eq_getElem?_getD]
    · simp only [decide_eq_true_eq] at h3 h4
      rw [Int.toNat_natCast] at h3 h4
      have hd := drop_cons (0 : Int) (show n + 1 + j < s.length by omega)
      rw [runK_go lowerK hd (lower_t (by omega))] at hr
      rw [hr, Nat.add_assoc]; omega
    · dsimp only; omega
    · simp only [decide_eq_true_eq, decide_eq_false_iff_not] at h3 h4
      rw [Int.toNat_natCast] at h3 h4
      have hd := drop_cons (0 : Int) (show n + 1 + j < s.length by omega)
      exact ⟨by rw [(out (runK_stop lowerK hd (lower_f (by omega)))).2.1 hm], rfl⟩
    · simp only [decide_eq_true_eq, decide_eq_false_iff_not] at h3 h4
      rw [Int.toNat_natCast] at h3 h4
      have hd := drop_cons (0 : Int) (show n + 1 + j < s.length by omega)
      exact ⟨by rw [(out (runK_stop lowerK hd (lower_f (by omega)))).2.2 hm], rfl⟩
    · simp only [decide_eq_false_iff_not] at h3
      rw [Int.toNat_natCast] at h3
      have hd := drop_cons (0 : Int) (show n + 1 + j < s.length by omega)
      exact ⟨by rw [(out (runK_stop lowerK hd (lower_f (by omega)))).2.1 hm], rfl⟩
    · simp only [decide_eq_false_iff_not] at h3
      rw [Int.toNat_natCast] at h3
      have hd := drop_cons (0 : Int) (show n + 1 + j < s.length by omega)
      exact ⟨by rw [(out (runK_stop lowerK hd (lower_f (by omega)))).2.2 hm], rfl⟩
    · exact ⟨by rw [(out (by rw [List.drop_eq_nil_of_le (by omega)]; rfl)).2.1 hm], rfl⟩
    · exact ⟨by rw [(out (by rw [List.drop_eq_nil_of_le (by omega)]; rfl)).2.2 hm], rfl⟩
end Go.Am.L
