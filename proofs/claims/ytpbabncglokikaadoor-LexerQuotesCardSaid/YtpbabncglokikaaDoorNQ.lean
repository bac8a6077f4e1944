/-
  A part of the proof of a law: see the text that states it.
-/
import Derived.Test.YtpbabncglokikaaDoorN
import Derived.Test.YtpbabncglokikaaDoorVcQ
set_option linter.all false
namespace Go.Am.L
open Go Go.Am.Pr
set_option maxRecDepth 100000
def q1 (c : Int) : List Int := if c = 10 then [92, 110] else if c = 34 then [92, 34] else if c = 92 then [92, 92] else [c]
def quoteS : List Int → List Int
  | [] => []
  | c :: r => q1 c ++ quoteS r
theorem quoteS_snoc (c : Int) : ∀ s : List Int, quoteS (s ++ [c]) = quoteS s ++ q1 c
  | [] => by simp [quoteS]
  | a :: s => by rw [List.cons_append, quoteS, quoteS_snoc c s, quoteS, List.append_assoc]
theorem q1_len (c : Int) : (q1 c).length ≤ 2 := by
  unfold q1
  split
  · decide
  · split
    · decide
    · split
      · decide
      · simp
theorem quoteS_len : ∀ s : List Int, (quoteS s).length ≤ 2 * s.length
  | [] => by decide
  | a :: s => by
    have := quoteS_len s
    have := q1_len a
    rw [quoteS, List.length_append, List.length_cons]; omega
theorem cut_one (s : List Int) (k : Nat) (h : k < s.length) : cut s k (Int.toNat ((k : Int) + 1)) = [s.getD k 0] := by
  have : Int.toNat ((k : Int) + 1) = k + 1 := by omega
  rw [this, cut_take, drop_cons (0 : Int) h]; rfl
theorem quoted_ev (s : List Int) (hl : s.length ≤ 40) : E 15 [.tv [] .str s] [] (.tv [] .str (34 :: (quoteS s ++ [34]))) [] := by
  refine ev_of (vc15 s _ ?_)
  have hb : (1000000 : Nat) ≤ bigN := by decide
  generalize bigN = big at hb ⊢
  refine ⟨fun out z => ∃ k : Nat, z = k ∧ k ≤ s.length ∧ out = quoteS (s.take k), fun _ z => (s.length - z).toNat, ⟨0, rfl, by omega, rfl⟩, ?_⟩
  rintro out z ⟨k, rfl, hk, rfl⟩
  have hql := quoteS_len (s.take k)
  rw [List.length_take] at hql
  refine ⟨fun h => ?_, fun h => ?_⟩
  · (simp only [decide_eq_true_eq, decide_eq_false_iff_not, Bool.not_eq_true', Bool.not_eq_false'] at h)
    have hk' : k < s.length := by omega
    rw [Int.toNat_natCast, cut_one s k hk']
    have hq : quoteS (s.take (k + 1)) = quoteS (s.take k) ++ q1 (s.getD k 0) := by
      rw [take_snoc (0 : Int) hk', quoteS_snoc]
    refine ⟨⟨by omega⟩, fun h1 => ⟨⟨by omega⟩, ⟨by omega⟩, ⟨k + 1, by omega, by omega, ?_⟩, ⟨by ((try dsimp only); omega)⟩⟩, fun h1 => ⟨fun h2 => ⟨⟨by omega⟩, ⟨by omega⟩, ⟨by omega⟩, ⟨by simp only [List.length_append, List.length_cons, List.length_nil]; omega⟩, ⟨by omega⟩, ⟨k + 1, by omega, by omega, ?_⟩, ⟨by ((try dsimp only); omega)⟩⟩, fun h2 => ⟨fun h3 => ⟨⟨by omega⟩, ⟨by omega⟩, ⟨by omega⟩, ⟨by simp only [List.length_append, List.length_cons, List.length_nil]; omega⟩, ⟨by omega⟩, ⟨k + 1, by omega, by omega, ?_⟩, ⟨by ((try dsimp only); omega)⟩⟩, fun h3 => ⟨⟨by omega⟩, ⟨by omega⟩, ⟨by simp only [List.length_append, List.length_cons, List.length_nil]; omega⟩, ⟨by omega⟩, ⟨k + 1, by omega, by omega, ?_⟩, ⟨by ((try dsimp only); omega)⟩⟩⟩⟩⟩
    · (simp only [decide_eq_true_eq, decide_eq_false_iff_not, Bool.not_eq_true', Bool.not_eq_false'] at h1)
      rw [hq, h1]; rfl
    · (simp only [decide_eq_true_eq, decide_eq_false_iff_not, Bool.not_eq_true', Bool.not_eq_false'] at h2)
      rw [hq, h2, List.append_assoc]; rfl
    · (simp only [decide_eq_true_eq, decide_eq_false_iff_not, Bool.not_eq_true', Bool.not_eq_false'] at h3)
      rw [hq, h3, List.append_assoc]; rfl
    · (simp only [decide_eq_true_eq, decide_eq_false_iff_not, Bool.not_eq_true', Bool.not_eq_false'] at h1 h2 h3)
      rw [hq, q1, if_neg h1, if_neg h2, if_neg h3]
  · (simp only [decide_eq_true_eq, decide_eq_false_iff_not, Bool.not_eq_true', Bool.not_eq_false'] at h)
    rw [List.take_of_length_le (by omega)] at hql ⊢
    refine ⟨⟨by omega⟩, ⟨by simp only [List.length_append, List.length_cons, List.length_nil]; omega⟩, rfl, rfl⟩
theorem text_quote : ∀ (s out : List Int) (k : Nat), textL out k (quoteS s ++ [34]) = if out ++ s = [] then .error (10, 0) else if 32 < ((out ++ s).length : Int) then .error (12, 0) else .ok (out ++ s, k + (quoteS s).length + 1)
  | [], out, k => by
    rw [List.append_nil, quoteS, List.nil_append, textL_cons, if_neg (by decide), if_pos rfl]
    by_cases h : out = []
    · rw [if_pos h, if_pos (by simp [h])]
    · rw [if_neg h, if_neg (by simpa using h)]
      rfl
  | c :: s, out, k => by
    have ih := text_quote s (out ++ [c])
    simp only [List.append_assoc, List.singleton_append] at ih
    rw [quoteS, List.append_assoc]
    unfold q1
    by_cases h1 : c = 10
    · subst h1
      rw [if_pos rfl, List.cons_append, List.cons_append, List.nil_append, textL_cons, if_neg (by decide), if_neg (by decide), if_pos rfl]
      have he : escK mayT 110 = some 10 := by decide
      simp only [he]
      rw [ih]
      have : k + 2 + (quoteS s).length + 1 = k + (92 :: 110 :: (quoteS s)).length + 1 := by simp only [List.length_cons]; omega
      rw [this]; rfl
    · rw [if_neg h1]
      by_cases h2 : c = 34
      · subst h2
        rw [if_pos rfl, List.cons_append, List.cons_append, List.nil_append, textL_cons, if_neg (by decide), if_neg (by decide), if_pos rfl]
        have he : escK mayT 34 = some 34 := by decide
        simp only [he]
        rw [ih]
        have : k + 2 + (quoteS s).length + 1 = k + (92 :: 34 :: (quoteS s)).length + 1 := by simp only [List.length_cons]; omega
        rw [this]; rfl
      · rw [if_neg h2]
        by_cases h3 : c = 92
        · subst h3
          rw [if_pos rfl, List.cons_append, List.cons_append, List.nil_append, textL_cons, if_neg (by decide), if_neg (by decide), if_pos rfl]
          have he : escK mayT 92 = some 92 := by decide
          simp only [he]
          rw [ih]
          have : k + 2 + (quoteS s).length + 1 = k + (92 :: 92 :: (quoteS s)).length + 1 := by simp only [List.length_cons]; omega
          rw [this]; rfl
        · rw [if_neg h3, List.cons_append, List.nil_append, textL_cons, if_neg h1, if_neg h2, if_neg h3, ih]
          have : k + 1 + (quoteS s).length + 1 = k + (c :: quoteS s).length + 1 := by simp only [List.length_cons]; omega
          rw [this]; rfl
theorem cut32 (x : Int) (h1 : 0 ≤ x) (h2 : x ≤ 9) : cut [(32 : Int), (32 : Int), (32 : Int), (32 : Int), (32 : Int), (32 : Int), (32 : Int), (32 : Int), (32 : Int)] 0 (Int.toNat x) = List.replicate x.toNat 32 := by
  have : x = 0 ∨ x = 1 ∨ x = 2 ∨ x = 3 ∨ x = 4 ∨ x = 5 ∨ x = 6 ∨ x = 7 ∨ x = 8 ∨ x = 9 := by omega
  rcases this with rfl | rfl | rfl | rfl | rfl | rfl | rfl | rfl | rfl | rfl <;> rfl
theorem pos32 (n : Nat) : posK (List.replicate n 32) = (1, (n : Int) + 1, ()) := by
  have h1 : ∀ n : Nat, cntB (List.replicate n 32) 10 = 0 := by
    intro n
    induction n with
    | zero => rfl
    | succ n ih => rw [List.replicate_succ, cntB, if_neg (by decide), ih]
  have h2 : ∀ n : Nat, lastB (List.replicate n 32) 10 = -1 := by
    intro n
    induction n with
    | zero => rfl
    | succ n ih => rw [List.replicate_succ, lastB, ih, if_neg (by decide), if_neg (by decide)]
  unfold posK
  rw [h1, h2, List.length_replicate]
  have : (n : Int) - -1 = n + 1 := by omega
  rw [this]; rfl
theorem quoteS_byte {s : List Int} (hs : ∀ c ∈ s, 0 ≤ c ∧ c < 256) : ∀ c ∈ quoteS s, 0 ≤ c ∧ c < 256 := by
  induction s with
  | nil => intro c hc; cases hc
  | cons a s ih =>
    intro c hc
    rw [quoteS] at hc
    rcases List.mem_append.1 hc with hc | hc
    · unfold q1 at hc
      have := hs a (List.mem_cons_self ..)
      split at hc
      · simp at hc; omega
      · split at hc
        · simp at hc; omega
        · split at hc
          · simp at hc; omega
          · simp at hc; omega
    · exact ih (fun c hc => hs c (List.mem_cons_of_mem _ hc)) c hc
theorem quotes (s : List Int) (x : Int) (hs : ∀ c ∈ s, 0 ≤ c ∧ c < 256) : E 6 [.tv [] .str s, .tv [] (.int .i64) x] [] (.tv [] .bool true) [] := by
  refine ev_of (vc6 s x _ ?_)
  have hb : (1000000 : Nat) ≤ bigN := by decide
  generalize bigN = big at hb ⊢
  refine ⟨_, ⟨awake_ev⟩, fun _ => ⟨rfl, rfl⟩, fun h1 => ⟨fun _ => ⟨rfl, rfl⟩, fun h2 => ⟨fun _ => ⟨rfl, rfl⟩, fun h3 => ?_⟩⟩⟩
  (simp only [decide_eq_true_eq, decide_eq_false_iff_not, Bool.not_eq_true', Bool.not_eq_false'] at h1 h2 h3)
  rw [cut32 x (by omega) (by omega)]
  have hx : ((x.toNat : Nat) : Int) = x := by omega
  generalize hDD : x.toNat = D at hx
  have hql := quoteS_len s
  generalize hT : List.replicate D (32 : Int) ++ (34 :: (quoteS s ++ [34])) = T
  have hl : T.length = ((quoteS s).length + 1 + 1) + D := by rw [← hT]; simp; omega
  have hTb : ∀ c ∈ T, 0 ≤ c ∧ c < 256 := by
    intro c hc
    rw [← hT] at hc
    rcases List.mem_append.1 hc with hc | hc
    · rw [List.eq_of_mem_replicate hc]; decide
    · rcases List.mem_cons.1 hc with rfl | hc
      · decide
      · rcases List.mem_append.1 hc with hc | hc
        · exact quoteS_byte hs c hc
        · rw [List.mem_singleton.1 hc]; decide
  have htk : T.take D = List.replicate D 32 := by
    rw [← hT]
    have := List.take_left (l₁ := List.replicate D (32 : Int)) (l₂ := 34 :: (quoteS s ++ [34]))
    rwa [List.length_replicate] at this
  have hp : posK (T.take D) = (1, x + 1, ()) := by rw [htk, pos32, hx]
  have hlex : lexS T.length 0 T = lexS ((quoteS s).length + 1 + 1) D (34 :: (quoteS s ++ [34])) := by
    rw [hl, ← hT, lexS_spaces, Nat.zero_add]
  have htok := tok34 (quoteS s ++ [34])
  have htx : textK (34 :: (quoteS s ++ [34])) = textL [] 1 (quoteS s ++ [34]) := rfl
  rw [htx, text_quote, List.nil_append] at htok
  refine ⟨⟨by omega⟩, _, ⟨quoted_ev s (by omega)⟩, ?_⟩
  rw [hT]
  refine ⟨⟨by simp only [List.length_append, List.length_cons, List.length_nil, List.length_replicate]; omega⟩, ?_⟩
  by_cases h4 : s = []
  · rw [if_pos h4] at htok
    rw [lexS_err htok (by simp)] at hlex
    have e := lex_is T (.error (10, D)) (by omega) hTb (by rw [hlex]; rfl)
    simp only [lexOut, hp] at e
    refine ⟨_, _, _, _, ⟨e⟩, ⟨by omega⟩, fun _ => ⟨fun _ => ⟨fun _ => ⟨?_, rfl⟩, nofun⟩, nofun⟩, fun h6 => absurd h4 (of_decide_eq_false h6)⟩
    simp
  · rw [if_neg h4] at htok
    by_cases h5 : 32 < (s.length : Int)
    · rw [if_pos h5] at htok
      rw [lexS_err htok (by simp)] at hlex
      have e := lex_is T (.error (12, D)) (by omega) hTb (by rw [hlex]; rfl)
      simp only [lexOut, hp] at e
      refine ⟨_, _, _, _, ⟨e⟩, ⟨by omega⟩, fun h6 => absurd (of_decide_eq_true h6) h4, fun _ => ⟨fun _ => ⟨fun _ => ⟨fun _ => ⟨?_, rfl⟩, nofun⟩, nofun⟩, fun h6 => absurd h5 (of_decide_eq_false h6)⟩⟩
      simp
    · rw [if_neg h5] at htok
      have hlast := lexS_last (f := (quoteS s).length + 1) (k := D) (r := 34 :: (quoteS s ++ [34])) (kd := 3) (t := s) (by rw [htok]; simp [tokOf]; omega) (by simp)
      rw [hlast] at hlex
      have e := lex_is T (.ok [(3, s, posK (T.take D), ())]) (by omega) hTb (by rw [hlex]; rfl)
      rw [hp] at e
      refine ⟨_, _, _, _, ⟨e⟩, ⟨by omega⟩, fun h6 => absurd (of_decide_eq_true h6) h4, fun _ => ⟨fun h6 => absurd (of_decide_eq_true h6) h5, fun _ => ⟨fun _ => ⟨fun _ => ⟨fun _ => ⟨⟨by simp⟩, ?_, rfl⟩, nofun⟩, nofun⟩, nofun⟩⟩⟩
      simp
end Go.Am.L
