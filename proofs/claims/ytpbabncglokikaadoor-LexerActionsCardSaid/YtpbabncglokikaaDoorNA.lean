/-
  A part of the proof of a law: see the text that states it.
-/
import Derived.Test.YtpbabncglokikaaDoorN
import Derived.Test.YtpbabncglokikaaDoorVcA
set_option linter.all false
namespace Go.Am.L
open Go Go.Am.Pr
set_option maxRecDepth 100000
theorem act_open (w : List Int) : ∀ (n : Nat) (d : Int) (k : Nat) (r : List Int), d + n ≤ 4 → actL w d k (List.replicate n 123 ++ r) = actL w (d + n) (k + n) r
  | 0, d, k, r, _ => by simp
  | n + 1, d, k, r, h => by
    rw [List.replicate_succ, List.cons_append, actL, if_pos rfl, if_neg (by omega), act_open w n (d + 1) (k + 1) r (by omega)]
    congr 1
    · omega
    · omega
theorem act_deep (w : List Int) : ∀ (n : Nat) (d : Int) (k : Nat) (r : List Int), d ≤ 4 → 4 < d + n → actL w d k (List.replicate n 123 ++ r) = .error (13, k + (4 - d).toNat)
  | 0, d, k, r, _, _ => by omega
  | n + 1, d, k, r, h, h2 => by
    rw [List.replicate_succ, List.cons_append, actL, if_pos rfl]
    by_cases h3 : d = 4
    · rw [if_pos (by omega), h3]; rfl
    · rw [if_neg (by omega), act_deep w n (d + 1) (k + 1) r (by omega) (by omega)]
      have : k + 1 + (4 - (d + 1)).toNat = k + (4 - d).toNat := by omega
      rw [this]
theorem act_plain (w : List Int) (d : Int) : ∀ (s : List Int) (k : Nat) (r : List Int), (∀ c ∈ s, c ≠ 123 ∧ c ≠ 125) → actL w d k (s ++ r) = actL w d (k + s.length) r
  | [], k, r, _ => rfl
  | c :: s, k, r, h => by
    have hc := h c (List.mem_cons_self ..)
    rw [List.cons_append, actL, if_neg hc.1, if_neg hc.2, act_plain w d s (k + 1) r (fun c hc => h c (List.mem_cons_of_mem _ hc)), List.length_cons]
    congr 1; omega
theorem act_close (w : List Int) : ∀ (n : Nat) (d : Int) (k : Nat), d = n → 0 < n → 0 < k → actL w d k (List.replicate n 125) = if 200 < ((k + n - 1 : Nat) : Int) - 1 then .error (12, 0) else .ok ((w.take (k + n - 1)).drop 1, k + n)
  | 0, d, k, _, h, _ => by omega
  | n + 1, d, k, h, _, hk => by
    rw [List.replicate_succ, actL, if_neg (by decide), if_pos rfl]
    by_cases h3 : n = 0
    · subst h3
      rw [if_neg (by omega)]; rfl
    · rw [if_pos (by omega), act_close w n (d - 1) (k + 1) (by omega) (by omega) (by omega)]
      have : k + 1 + n - 1 = k + (n + 1) - 1 := by omega
      rw [this, Nat.add_assoc k 1 n, Nat.add_comm 1 n]
theorem act_all (s : List Int) (D : Nat) (hD : 0 < D) (h : ∀ c ∈ s, c ≠ 123 ∧ c ≠ 125) (T : List Int) (hT : T = List.replicate D 123 ++ s ++ List.replicate D 125) :
    lexS T.length 0 T = if 4 < D then .error (13, 4) else if 200 < (T.length : Int) - 2 then .error (12, 0) else .ok [(9, (T.take (T.length - 1)).drop 1, 0)] := by
  have hl : T.length = D + s.length + D := by rw [hT]; simp; omega
  have hne : T ≠ [] := by intro h0; rw [h0] at hl; simp at hl; omega
  obtain ⟨E, rfl⟩ : ∃ E, D = E + 1 := ⟨D - 1, by omega⟩
  have htok : tokK T = tokOf 9 (actK T) := by
    rw [hT, List.replicate_succ, List.cons_append, List.cons_append]; exact tok123 _
  obtain ⟨f, hf⟩ : ∃ f, T.length = f + 1 := ⟨T.length - 1, by omega⟩
  have hact : actK T = if 4 < E + 1 then .error (13, 4) else if 200 < (T.length : Int) - 2 then .error (12, 0) else .ok ((T.take (T.length - 1)).drop 1, T.length) := by
    unfold actK
    have e1 : actL T 0 0 T = actL T 0 0 (List.replicate (E + 1) 123 ++ (s ++ List.replicate (E + 1) 125)) := by rw [← List.append_assoc, ← hT]
    rw [e1]
    by_cases h4 : 4 < E + 1
    · rw [if_pos h4, act_deep _ _ _ _ _ (by omega) (by omega)]; rfl
    · rw [if_neg h4, act_open _ _ _ _ _ (by omega), act_plain _ _ _ _ _ h, act_close _ _ _ _ (by omega) (by omega) (by omega)]
      have e2 : 0 + (E + 1) + s.length + (E + 1) = T.length := by omega
      rw [e2]
      by_cases h5 : 200 < (T.length : Int) - 2
      · rw [if_pos h5, if_pos (by omega)]
      · rw [if_neg h5, if_neg (by omega)]
  by_cases h4 : 4 < E + 1
  · rw [if_pos h4] at hact ⊢
    rw [hact] at htok
    rw [hf, lexS_err htok hne]
  · rw [if_neg h4] at hact ⊢
    by_cases h5 : 200 < (T.length : Int) - 2
    · rw [if_pos h5] at hact ⊢
      rw [hact] at htok
      rw [hf, lexS_err htok hne]
    · rw [if_neg h5] at hact ⊢
      rw [hact] at htok
      have := lexS_last (f := f) (k := 0) htok hne
      rw [← hf] at this; exact this
theorem cut123 (x : Int) (h1 : 1 ≤ x) (h2 : x ≤ 6) : cut [(123 : Int), (123 : Int), (123 : Int), (123 : Int), (123 : Int), (123 : Int)] 0 (Int.toNat x) = List.replicate x.toNat 123 ∧ cut [(125 : Int), (125 : Int), (125 : Int), (125 : Int), (125 : Int), (125 : Int)] 0 (Int.toNat x) = List.replicate x.toNat 125 := by
  have : x = 1 ∨ x = 2 ∨ x = 3 ∨ x = 4 ∨ x = 5 ∨ x = 6 := by omega
  rcases this with rfl | rfl | rfl | rfl | rfl | rfl <;> exact ⟨rfl, rfl⟩
theorem actions (s : List Int) (x : Int) (hs : ∀ c ∈ s, 0 ≤ c ∧ c < 256) : E 7 [.tv [] .str s, .tv [] (.int .i64) x] [] (.tv [] .bool true) [] := by
  refine ev_of (vc7 s x _ ?_)
  have hb : (1000000 : Nat) ≤ bigN := by decide
  generalize bigN = big at hb ⊢
  refine ⟨_, ⟨awake_ev⟩, fun _ => ⟨rfl, rfl⟩, fun h1 => ⟨fun _ => ⟨rfl, rfl⟩, fun h2 => ⟨fun _ => ⟨rfl, rfl⟩, fun h3 => ?_⟩⟩⟩
  (simp only [decide_eq_true_eq, decide_eq_false_iff_not, Bool.not_eq_true', Bool.not_eq_false'] at h1 h2 h3)
  obtain ⟨hc1, hc2⟩ := cut123 x (by omega) (by omega)
  rw [hc1, hc2]
  have hD : 0 < x.toNat := by omega
  have hx : ((x.toNat : Nat) : Int) = x := by omega
  generalize hDD : x.toNat = D at hD hx
  refine ⟨fun z => ∃ k : Nat, z = k ∧ k ≤ s.length ∧ ∀ c ∈ s.take k, c ≠ 123 ∧ c ≠ 125, fun z => (s.length - z).toNat, ⟨0, rfl, by omega, by simp⟩, ?_⟩
  rintro z ⟨k, rfl, hk, hv⟩
  refine ⟨fun h => ?_, fun h => ?_⟩
  · (simp only [decide_eq_true_eq, decide_eq_false_iff_not, Bool.not_eq_true', Bool.not_eq_false'] at h)
    rw [Int.toNat_natCast]
    refine ⟨⟨by omega⟩, fun _ => ⟨rfl, rfl⟩, fun h4 => ⟨⟨by omega⟩, fun _ => ⟨rfl, rfl⟩, fun h5 => ⟨⟨by omega⟩, ⟨k + 1, by omega, by omega, ?_⟩, ⟨by ((try dsimp only); omega)⟩⟩⟩⟩
    (simp only [decide_eq_true_eq, decide_eq_false_iff_not, Bool.not_eq_true', Bool.not_eq_false'] at h4 h5)
    rw [take_snoc (0 : Int) (by omega)]
    intro c hc
    rcases List.mem_append.1 hc with hc | hc
    · exact hv c hc
    · rw [List.mem_singleton.1 hc]; exact ⟨h4, h5⟩
  · (simp only [decide_eq_true_eq, decide_eq_false_iff_not, Bool.not_eq_true', Bool.not_eq_false'] at h)
    rw [List.take_of_length_le (by omega)] at hv
    generalize hT : List.replicate D (123 : Int) ++ s ++ List.replicate D 125 = T
    have hl : T.length = D + s.length + D := by rw [← hT]; simp; omega
    have hlex := act_all s D hD hv T hT.symm
    have hTb : ∀ c ∈ T, 0 ≤ c ∧ c < 256 := by
      intro c hc
      rw [← hT] at hc
      rcases List.mem_append.1 hc with hc | hc
      · rcases List.mem_append.1 hc with hc | hc
        · rw [List.eq_of_mem_replicate hc]; decide
        · exact hs c hc
      · rw [List.eq_of_mem_replicate hc]; decide
    refine ⟨⟨by omega⟩, ⟨by simp; omega⟩, ⟨by omega⟩, ⟨by simp; omega⟩, ?_⟩
    by_cases h4 : 4 < D
    · rw [if_pos h4] at hlex
      have e := lex_is T (.error (13, 4)) (by omega) hTb (by rw [hlex]; rfl)
      have hp : posK (T.take 4) = (1, 5, ()) := by
        rw [← hT]
        obtain ⟨E, rfl⟩ : ∃ E, D = E + 4 := ⟨D - 4, by omega⟩
        rfl
      simp only [lexOut, hp] at e
      refine ⟨_, _, _, _, ⟨e⟩, fun _ => ⟨fun _ => ⟨fun _ => ⟨rfl, rfl⟩, nofun⟩, nofun⟩, fun h6 => ?_⟩
      (simp only [decide_eq_true_eq, decide_eq_false_iff_not, Bool.not_eq_true', Bool.not_eq_false'] at h6)
      omega
    · rw [if_neg h4] at hlex
      by_cases h5 : 200 < (T.length : Int) - 2
      · rw [if_pos h5] at hlex
        have e := lex_is T (.error (12, 0)) (by omega) hTb (by rw [hlex]; rfl)
        refine ⟨_, _, _, _, ⟨e⟩, fun h6 => ?_, fun _ => ⟨⟨by omega⟩, fun _ => ⟨fun _ => ⟨fun _ => ⟨rfl, rfl⟩, nofun⟩, nofun⟩, fun h6 => ?_⟩⟩
        · (simp only [decide_eq_true_eq, decide_eq_false_iff_not, Bool.not_eq_true', Bool.not_eq_false'] at h6); omega
        · (simp only [decide_eq_true_eq, decide_eq_false_iff_not, Bool.not_eq_true', Bool.not_eq_false'] at h6); omega
      · rw [if_neg h5] at hlex
        have e := lex_is T (.ok [(9, (T.take (T.length - 1)).drop 1, (1, 1, ()), ())]) (by omega) hTb (by rw [hlex]; rfl)
        refine ⟨_, _, _, _, ⟨e⟩, fun h6 => ?_, fun _ => ⟨⟨by omega⟩, fun h6 => ?_, fun _ => ⟨fun _ => ⟨fun _ => ⟨fun _ => ⟨⟨by simp⟩, fun _ => ⟨⟨by simp⟩, ⟨by omega⟩, ⟨by omega⟩, ?_⟩, nofun⟩, nofun⟩, nofun⟩, nofun⟩⟩⟩
        · (simp only [decide_eq_true_eq, decide_eq_false_iff_not, Bool.not_eq_true', Bool.not_eq_false'] at h6); omega
        · (simp only [decide_eq_true_eq, decide_eq_false_iff_not, Bool.not_eq_true', Bool.not_eq_false'] at h6); omega
        · refine ⟨tvB (decide_eq_true ?_), rfl⟩
          have : Int.toNat ((T.length : Int) - 1) = T.length - 1 := by omega
          rw [this]; rfl
end Go.Am.L
