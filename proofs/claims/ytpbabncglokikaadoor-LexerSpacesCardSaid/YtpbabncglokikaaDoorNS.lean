/-
  A part of the proof of a law: see the text that states it.
-/
import Derived.Test.YtpbabncglokikaaDoorNT
import Derived.Test.YtpbabncglokikaaDoorVcS
set_option linter.all false
namespace Go.Am.L
open Go Go.Am.Pr
set_option maxRecDepth 100000
/-- Kinds and texts alone. -/
def tks : Nat → List Int → Except Int (List (Int × List Int))
  | 0, _ => .ok []
  | f + 1, r => match r with
    | [] => .ok []
    | _ :: _ => match tokK r with
      | .error (e, _) => .error e
      | .ok (kd, t, m, ok) => match tks f (r.drop m) with
        | .error e => .error e
        | .ok l => .ok (if ok then (kd, t) :: l else l)
theorem tks_cons (f : Nat) (c : Int) (r : List Int) : tks (f + 1) (c :: r) = match tokK (c :: r) with
      | .error (e, _) => .error e
      | .ok (kd, t, m, ok) => match tks f ((c :: r).drop m) with
        | .error e => .error e
        | .ok l => .ok (if ok then (kd, t) :: l else l) := by
  rw [tks.eq_def]
def strip : Except (Int × Nat) (List Mk) → Except Int (List (Int × List Int))
  | .error (e, _) => .error e
  | .ok l => .ok (l.map fun q => (q.1, q.2.1))
theorem strip_lex : ∀ (f k : Nat) (r : List Int), strip (lexS f k r) = tks f r
  | 0, k, r => rfl
  | f + 1, k, [] => rfl
  | f + 1, k, c :: r => by
    rw [lexS_cons, tks_cons]
    cases h : tokK (c :: r) with
    | error q => obtain ⟨e, d⟩ := q; rfl
    | ok q =>
      obtain ⟨kd, t, m, ok⟩ := q
      have ih := strip_lex f (k + m) ((c :: r).drop m)
      simp only
      rw [← ih]
      cases lexS f (k + m) ((c :: r).drop m) with
      | error q => obtain ⟨e, d⟩ := q; rfl
      | ok l => cases ok <;> rfl
def B8 (r : List Int) : Prop := ∀ c ∈ r, 0 ≤ c ∧ c < 256
theorem tks_fuel : ∀ (f g : Nat) (r : List Int), B8 r → r.length ≤ f → r.length ≤ g → tks f r = tks g r
  | 0, g, r, _, hf, _ => by
    have : r = [] := List.length_eq_zero_iff.1 (by omega)
    subst this
    cases g <;> rfl
  | f + 1, g, [], _, _, _ => by cases g <;> rfl
  | f + 1, 0, c :: r, _, _, hg => by simp at hg
  | f + 1, g + 1, c :: r, hr, hf, hg => by
    rw [tks_cons, tks_cons]
    cases h : tokK (c :: r) with
    | error q => rfl
    | ok q =>
      obtain ⟨kd, t, m, ok⟩ := q
      have hm := tokK_len hr h
      simp only
      have hl : ((c :: r).drop m).length ≤ (c :: r).length - 1 := by rw [List.length_drop]; omega
      simp only [List.length_cons] at hl hf hg
      rw [tks_fuel f g _ (fun b hb => hr b (List.mem_of_mem_drop hb)) (by omega) (by omega)]
theorem tks_skip {f : Nat} {r : List Int} {kd : Int} {t : List Int} {m : Nat} (h : tokK r = .ok (kd, t, m, false)) (hr : r ≠ []) : tks (f + 1) r = tks f (r.drop m) := by
  cases r with
  | nil => exact absurd rfl hr
  | cons c r =>
    rw [tks_cons, h]
    simp only
    cases tks f ((c :: r).drop m) <;> rfl
theorem tok_ws {c : Int} (h : c = 32 ∨ c = 9 ∨ c = 10 ∨ c = 13) (r : List Int) : tokK (c :: r) = .ok (0, [], 1, false) := by
  rw [tokK, if_pos h]
theorem tks_more (x : List Int) (hx : B8 x) : ∀ (f g : Nat) (r : List Int), B8 r → r.length ≤ f → r.length + 1 + x.length ≤ g →
    (∀ l, tks f r = .ok l → tks g (r ++ 10 :: x) = match tks x.length x with
      | .error e => .error e
      | .ok l' => .ok (l ++ l')) ∧ (∀ e, tks f r = .error e → e ≠ 11 → tks g (r ++ 10 :: x) = .error e)
  | f, 0, r, _, _, hg => by omega
  | f, g + 1, [], _, _, hg => by
    refine ⟨fun l h => ?_, fun e h => ?_⟩
    · have : l = [] := by cases f <;> cases h <;> rfl
      subst this
      rw [List.nil_append, tks_skip (tok_ws (.inr (.inr (.inl rfl))) x) (by simp), List.drop_one, List.tail_cons, tks_fuel g x.length x hx (by simp only [List.length_nil] at hg; omega) (Nat.le_refl _)]
      cases tks x.length x <;> rfl
    · cases f <;> cases h
  | 0, g + 1, c :: r, _, hf, _ => by simp at hf
  | f + 1, g + 1, c :: r, hr, hf, hg => by
    rw [tks_cons, List.cons_append, tks_cons]
    have hm := tok_more x c r hr
    rw [List.cons_append] at hm
    cases h : tokK (c :: r) with
    | error q =>
      obtain ⟨e, d⟩ := q
      refine ⟨nofun, fun e' he hne => ?_⟩
      have he : e = e' := by cases he; rfl
      subst he
      rcases hm with hm | ⟨d', hm⟩
      · rw [hm, h]
      · rw [h] at hm; cases hm; exact absurd rfl hne
    | ok q =>
      obtain ⟨kd, t, m, ok⟩ := q
      have hml := tokK_len hr h
      have hm : tokK (c :: (r ++ 10 :: x)) = .ok (kd, t, m, ok) := by
        rcases hm with hm | ⟨d', hm⟩
        · rw [hm, h]
        · rw [h] at hm; cases hm
      rw [hm]
      simp only
      have hd : (c :: (r ++ 10 :: x)).drop m = (c :: r).drop m ++ 10 :: x := by
        rw [← List.cons_append, List.drop_append_of_le_length hml.2]
      rw [hd]
      have hl : ((c :: r).drop m).length ≤ (c :: r).length - 1 := by rw [List.length_drop]; omega
      simp only [List.length_cons] at hl hf hg
      obtain ⟨ih1, ih2⟩ := tks_more x hx f g _ (fun b hb => hr b (List.mem_of_mem_drop hb)) (by omega : ((c :: r).drop m).length ≤ f) (by omega)
      cases h2 : tks f ((c :: r).drop m) with
      | error e =>
        refine ⟨nofun, fun e' he hne => ?_⟩
        have he : e = e' := by cases he; rfl
        subst he
        rw [ih2 e h2 hne]
      | ok l =>
        refine ⟨fun l' hl' => ?_, nofun⟩
        rw [ih1 l h2]
        have hl' : (if ok = true then (kd, t) :: l else l) = l' := by cases hl'; rfl
        subst hl'
        cases tks x.length x with
        | error e => rfl
        | ok l2 => cases ok <;> rfl
def Ws (l : List Int) : Prop := ∀ c ∈ l, c = 32 ∨ c = 9 ∨ c = 10 ∨ c = 13
theorem tks_ws (y : List Int) : ∀ (l : List Int) (f : Nat), Ws l → tks (f + l.length) (l ++ y) = tks f y
  | [], f, _ => rfl
  | c :: l, f, h => by
    rw [List.length_cons, ← Nat.add_assoc, List.cons_append, tks_skip (tok_ws (h c (List.mem_cons_self ..)) _) (by simp), List.drop_one, List.tail_cons, tks_ws y l f (fun b hb => h b (List.mem_cons_of_mem _ hb))]
theorem idx_none : ∀ cm : List Int, (∀ c ∈ cm, c ≠ 10) → idxB cm 10 = -1
  | [], _ => rfl
  | c :: cm, h => by
    rw [idxB, if_neg (h c (List.mem_cons_self ..)), idx_none cm (fun b hb => h b (List.mem_cons_of_mem _ hb)), if_pos (by decide)]
theorem tok_cm (cm : List Int) (h : ∀ c ∈ cm, c ≠ 10) : tokK (35 :: cm) = .ok (0, [], cm.length + 1, false) := by
  have h0 : ∀ c ∈ (35 : Int) :: cm, c ≠ 10 := by
    intro c hc
    rcases List.mem_cons.1 hc with rfl | hc
    · decide
    · exact h c hc
  rw [tokK, if_neg (by decide), if_pos rfl, idx_none _ h0, if_pos (by decide), List.length_cons]
theorem tok_cm2 (cm y : List Int) (h : ∀ c ∈ cm, c ≠ 10) : tokK (35 :: (cm ++ 10 :: y)) = .ok (0, [], cm.length + 1, false) := by
  have h0 : ∀ c ∈ (35 : Int) :: cm, c ≠ 10 := by
    intro c hc
    rcases List.mem_cons.1 hc with rfl | hc
    · decide
    · exact h c hc
  have e : (35 : Int) :: (cm ++ 10 :: y) = (35 :: cm) ++ 10 :: y := rfl
  have h1 : idxB ((35 : Int) :: cm ++ 10 :: y) 10 = (((35 : Int) :: cm).length : Int) := by rw [idx_more, idx_none _ h0]; rfl
  rw [tokK, if_neg (by decide), if_pos rfl, e, h1, if_neg (by omega), Int.toNat_natCast, List.length_cons]
theorem tks_pre (cm ws y : List Int) (f : Nat) (h : ∀ c ∈ cm, c ≠ 10) (hw : Ws ws) : tks (f + ws.length + 2) (35 :: (cm ++ 10 :: (ws ++ y))) = tks f y := by
  rw [tks_skip (tok_cm2 cm _ h) (by simp)]
  have : (35 :: (cm ++ 10 :: (ws ++ y))).drop (cm.length + 1) = 10 :: (ws ++ y) := by
    rw [List.drop_succ_cons, List.drop_left]
  rw [this, tks_skip (tok_ws (.inr (.inr (.inl rfl))) _) (by simp), List.drop_one, List.tail_cons, tks_ws _ _ _ hw]
theorem tks_end (cm : List Int) (f : Nat) (h : ∀ c ∈ cm, c ≠ 10) : tks (f + 1) (35 :: cm) = .ok [] := by
  rw [tks_skip (tok_cm cm h) (by simp), List.drop_of_length_le (by simp)]
  cases f <;> rfl
theorem tks_wrap (s cm ws T : List Int) (hs : B8 s) (hb : B8 cm) (h : ∀ c ∈ cm, c ≠ 10) (hw : Ws ws) (hT : T = 35 :: (cm ++ 10 :: (ws ++ (s ++ 10 :: (35 :: (cm ++ 10 :: (ws ++ (35 :: cm)))))))) :
    (∀ l, tks s.length s = .ok l → tks T.length T = .ok l) ∧ (∀ e, tks s.length s = .error e → e ≠ 11 → tks T.length T = .error e) := by
  have hwb : B8 ws := fun c hc => by have := hw c hc; omega
  have hxb : B8 (35 :: (cm ++ 10 :: (ws ++ (35 :: cm)))) := by
    intro c hc
    simp only [List.mem_cons, List.mem_append] at hc
    rcases hc with rfl | hc | rfl | hc | rfl | hc
    · decide
    · exact hb c hc
    · decide
    · exact hwb c hc
    · decide
    · exact hb c hc
  generalize hx : (35 :: (cm ++ 10 :: (ws ++ (35 :: cm)))) = x at hT hxb
  have hxe : tks x.length x = .ok [] := by
    have hl : x.length = (cm.length + cm.length + 1) + ws.length + 2 := by rw [← hx]; simp; omega
    rw [hl, ← hx, tks_pre cm ws _ _ h hw, tks_end cm _ h]
  have hl : T.length = (cm.length + (s.length + 1 + x.length)) + ws.length + 2 := by rw [hT]; simp; omega
  have hTe : tks T.length T = tks (cm.length + (s.length + 1 + x.length)) (s ++ 10 :: x) := by
    rw [hl, hT, tks_pre cm ws _ _ h hw]
  obtain ⟨h1, h2⟩ := tks_more x hxb s.length (cm.length + (s.length + 1 + x.length)) s hs (Nat.le_refl _) (by omega)
  rw [hTe]
  refine ⟨fun l hl => ?_, fun e he hne => h2 e he hne⟩
  rw [h1 l hl, hxe]
  exact congrArg Except.ok (List.append_nil l)
def kt (q : Mark) : Int × List Int := (q.1, q.2.1)
def LexIs (c : Int) (l : List Mark) : Except Int (List (Int × List Int)) → Prop
  | .error e => c = e ∧ l = []
  | .ok q => c = 0 ∧ l.map kt = q ++ [(0, [])]
theorem lexS_count : ∀ (f k : Nat) (r : List Int) {l : List Mk}, lexS f k r = .ok l → l.length ≤ f
  | 0, k, r, l, h => by cases h; exact Nat.le_refl _
  | f + 1, k, [], l, h => by cases h; exact Nat.zero_le _
  | f + 1, k, c :: r, l, h => by
    rw [lexS_cons] at h
    cases hx : tokK (c :: r) with
    | error q => rw [hx] at h; cases h
    | ok q =>
      obtain ⟨kd, t, m, ok⟩ := q
      rw [hx] at h
      simp only at h
      cases hy : lexS f (k + m) ((c :: r).drop m) with
      | error q => rw [hy] at h; cases h
      | ok l' =>
        rw [hy] at h
        have := lexS_count f _ _ hy
        cases h
        cases ok <;> simp <;> omega
theorem lex_told (s : List Int) (hl : s.length ≤ 4000) (hs : B8 s) : ∃ l c p1 p2, E 11 [.tv [] .str s] [] (.tup [.tv [] (.slice TMark) l, .tv [] TDiag (c, ((p1, (p2, ())), ()))]) [] ∧ LexIs c l (tks s.length s) ∧ l.length ≤ s.length + 1 := by
  have h := lex_ev s hl hs
  rw [← strip_lex s.length 0 s]
  cases hA : lexS s.length 0 s with
  | error q =>
    obtain ⟨e, k⟩ := q
    rw [hA] at h
    exact ⟨[], e, _, _, h, ⟨rfl, rfl⟩, Nat.zero_le _⟩
  | ok l =>
    rw [hA] at h
    refine ⟨_, 0, 0, 0, h, ⟨rfl, ?_⟩, ?_⟩
    · simp [strip, kt, Function.comp_def, markOf]
    · have := lexS_count _ _ _ hA
      simp; omega
theorem kt_getD (l : List Mark) (i : Nat) : kt (l.getD i ((0 : Int), (([] : List Int), (((0 : Int), ((0 : Int), ())), ())))) = (l.map kt).getD i (0, []) := by
  simp only [List.getD_eq_getElem?_getD, List.getElem?_map]
  cases l[i]? <;> rfl
theorem cut_ws (z : Int) (h : 0 ≤ z) : Ws (cut [(32 : Int), (9 : Int), (13 : Int), (10 : Int)] (Int.toNat (Int.tmod z (4 : Int))) (Int.toNat ((Int.tmod z (4 : Int)) + (1 : Int)))) ∧ (cut [(32 : Int), (9 : Int), (13 : Int), (10 : Int)] (Int.toNat (Int.tmod z (4 : Int))) (Int.toNat ((Int.tmod z (4 : Int)) + (1 : Int)))).length = 1 ∧ 0 ≤ Int.tmod z 4 ∧ Int.tmod z 4 < 4 := by
  have h1 : 0 ≤ Int.tmod z 4 := Int.tmod_nonneg _ h
  have h2 : Int.tmod z 4 < 4 := Int.tmod_lt_of_pos _ (by decide)
  refine ⟨?_, ?_, h1, h2⟩
  all_goals
    generalize Int.tmod z 4 = m at h1 h2
    have : m = 0 ∨ m = 1 ∨ m = 2 ∨ m = 3 := by omega
    rcases this with rfl | rfl | rfl | rfl
  · intro c hc; have hc : c ∈ [(32 : Int)] := hc; simp at hc; omega
  · intro c hc; have hc : c ∈ [(9 : Int)] := hc; simp at hc; omega
  · intro c hc; have hc : c ∈ [(13 : Int)] := hc; simp at hc; omega
  · intro c hc; have hc : c ∈ [(10 : Int)] := hc; simp at hc; omega
  · rfl
  · rfl
  · rfl
  · rfl
theorem spaces (s : List Int) (x : Int) (cm : List Int) (hs : ∀ c ∈ s, 0 ≤ c ∧ c < 256) (hb : ∀ c ∈ cm, 0 ≤ c ∧ c < 256) : E 5 [.tv [] .str s, .tv [] (.int .i64) x, .tv [] .str cm] [] (.tv [] .bool true) [] := by
  refine ev_of (vc5 s x cm _ ?_)
  have hbig : (1000000 : Nat) ≤ bigN := by decide
  generalize bigN = big at hbig ⊢
  refine ⟨_, ⟨awake_ev⟩, fun _ => ⟨rfl, rfl⟩, fun h1 => ⟨fun _ => ⟨rfl, rfl⟩, fun h2 => ⟨fun _ => ⟨rfl, rfl⟩, fun h3 => ⟨fun _ => ⟨rfl, rfl⟩, fun h4 => ?_⟩⟩⟩⟩
  (simp only [decide_eq_true_eq, decide_eq_false_iff_not, Bool.not_eq_true', Bool.not_eq_false'] at h1 h2 h3 h4)
  refine ⟨fun z => ∃ k : Nat, z = k ∧ k ≤ cm.length ∧ ∀ c ∈ cm.take k, c ≠ 10, fun z => (cm.length - z).toNat, ⟨0, rfl, by omega, by simp⟩, ?_⟩
  rintro z ⟨k, rfl, hk, hv⟩
  refine ⟨fun h => ?_, fun h => ?_⟩
  · (simp only [decide_eq_true_eq, decide_eq_false_iff_not, Bool.not_eq_true', Bool.not_eq_false'] at h)
    rw [Int.toNat_natCast]
    refine ⟨⟨by omega⟩, fun _ => ⟨rfl, rfl⟩, fun h5 => ⟨⟨by omega⟩, ⟨k + 1, by omega, by omega, ?_⟩, ⟨by ((try dsimp only); omega)⟩⟩⟩
    (simp only [decide_eq_true_eq, decide_eq_false_iff_not, Bool.not_eq_true', Bool.not_eq_false'] at h5)
    rw [take_snoc (0 : Int) (by omega)]
    intro c hc
    rcases List.mem_append.1 hc with hc | hc
    · exact hv c hc
    · rw [List.mem_singleton.1 hc]; exact h5
  · (simp only [decide_eq_true_eq, decide_eq_false_iff_not, Bool.not_eq_true', Bool.not_eq_false'] at h)
    rw [List.take_of_length_le (by omega)] at hv
    refine ⟨⟨by omega⟩, ⟨by simp only [List.length_append, List.length_cons, List.length_nil]; omega⟩, ?_⟩
    refine ⟨fun t z => ∃ ws : List Int, t = 35 :: (cm ++ 10 :: ws) ∧ Ws ws ∧ z = (ws.length : Int) ∧ z ≤ x, fun _ z => (x - z).toNat, ⟨[], by simp, nofun, rfl, by omega⟩, ?_⟩
    rintro t z ⟨ws, rfl, hw, hz, hzx⟩
    refine ⟨fun h5 => ?_, fun h5 => ?_⟩
    · (simp only [decide_eq_true_eq, decide_eq_false_iff_not, Bool.not_eq_true', Bool.not_eq_false'] at h5)
      obtain ⟨w1, w2, w3, w4⟩ := cut_ws z (by omega)
      generalize cut [(32 : Int), (9 : Int), (13 : Int), (10 : Int)] (Int.toNat (Int.tmod z (4 : Int))) (Int.toNat ((Int.tmod z (4 : Int)) + (1 : Int))) = wx at w1 w2 ⊢
      refine ⟨⟨by decide⟩, ⟨nofun⟩, ⟨by decide⟩, ⟨nofun⟩, ⟨by omega⟩, ⟨by omega⟩, ⟨by simp only [List.length_append, List.length_cons, w2]; omega⟩, ⟨by omega⟩, ⟨ws ++ wx, ?_, ?_, ?_, by omega⟩, ⟨by ((try dsimp only); omega)⟩⟩
      · simp
      · intro c hc
        rcases List.mem_append.1 hc with hc | hc
        · exact hw c hc
        · exact w1 c hc
      · rw [List.length_append, w2]; omega
    · (simp only [decide_eq_true_eq, decide_eq_false_iff_not, Bool.not_eq_true', Bool.not_eq_false'] at h5)
      have hwl : ws.length ≤ 9 := by omega
      generalize hT : ((((35 :: (cm ++ 10 :: ws)) ++ s) ++ [(10 : Int)]) ++ (35 :: (cm ++ 10 :: ws))) ++ [(35 : Int)] ++ cm = T
      have hTe : T = 35 :: (cm ++ 10 :: (ws ++ (s ++ 10 :: (35 :: (cm ++ 10 :: (ws ++ (35 :: cm))))))) := by rw [← hT]; simp
      obtain ⟨g1, g2⟩ := tks_wrap s cm ws T hs hb hv hw hTe
      have hTl : T.length ≤ 4000 := by rw [hTe]; simp; omega
      have hTb : B8 T := by
        have hwb : B8 ws := fun c hc => by have := hw c hc; omega
        intro c hc
        rw [hTe] at hc
        simp only [List.mem_cons, List.mem_append] at hc
        rcases hc with rfl | hc | rfl | hc | hc | rfl | rfl | hc | rfl | hc | rfl | hc
        · decide
        · exact hb c hc
        · decide
        · exact hwb c hc
        · exact hs c hc
        · decide
        · decide
        · exact hb c hc
        · decide
        · exact hwb c hc
        · decide
        · exact hb c hc
      obtain ⟨l1, c1, p1, p2, e1, i1, m1⟩ := lex_told s (by omega) hs
      obtain ⟨l2, c2, p3, p4, e2, i2, m2⟩ := lex_told T hTl hTb
      have hP1 : c1 ≠ 0 → c1 ≠ 11 → c2 = c1 := by
        intro n0 n11
        cases hq : tks s.length s with
        | error e =>
          rw [hq] at i1
          rw [g2 e hq (by rw [← i1.1]; exact n11)] at i2
          rw [i2.1, i1.1]
        | ok q => rw [hq] at i1; exact absurd i1.1 n0
      have hP2 : c1 = 0 → c2 = 0 ∧ l1.map kt = l2.map kt := by
        intro n0
        cases hq : tks s.length s with
        | error e =>
          rw [hq] at i1
          rw [g2 e hq (by rw [← i1.1, n0]; decide)] at i2
          rw [i2.1, ← i1.1, n0, i1.2, i2.2]; exact ⟨rfl, rfl⟩
        | ok q =>
          rw [hq] at i1
          rw [g1 q hq] at i2
          exact ⟨i2.1, by rw [i1.2, i2.2]⟩
      refine ⟨l1, c1, p1, p2, ⟨e1⟩, ⟨by simp only [List.length_append, List.length_cons]; omega⟩, ⟨by simp only [List.length_append, List.length_cons]; omega⟩, ⟨by simp only [List.length_append, List.length_cons, List.length_nil]; omega⟩, ⟨by simp only [List.length_append, List.length_cons, List.length_nil]; omega⟩, ⟨by simp only [List.length_append, List.length_cons, List.length_nil]; omega⟩, l2, c2, p3, p4, ⟨e2⟩, fun h6 => ⟨fun h7 => ⟨fun _ => ⟨fun _ => ⟨rfl, rfl⟩, fun h8 => ?_⟩, nofun⟩, fun h7 => ⟨fun _ => ⟨rfl, rfl⟩, fun h8 => ?_⟩⟩, fun h6 => ⟨fun h7 => ?_, fun h7 => ?_⟩⟩
      · (simp only [decide_eq_true_eq, decide_eq_false_iff_not, Bool.not_eq_true', Bool.not_eq_false'] at h6 h7 h8)
        exact absurd (hP1 h6 h7) h8
      · rw [h6] at h8; cases h8
      · rw [h6] at h7; cases h7
      · (simp only [decide_eq_true_eq, decide_eq_false_iff_not, Bool.not_eq_true', Bool.not_eq_false'] at h6)
        simp only [ne_eq, Decidable.not_not] at h6
        obtain ⟨hc2, hll⟩ := hP2 h6
        have hlen : l1.length = l2.length := by have := congrArg List.length hll; simpa using this
        refine ⟨fun h8 => ?_, fun h8 => ⟨fun h9 => ?_, fun h9 => ?_⟩⟩
        · (simp only [decide_eq_true_eq, decide_eq_false_iff_not, Bool.not_eq_true', Bool.not_eq_false'] at h8); exact absurd hc2 h8
        · (simp only [decide_eq_true_eq, decide_eq_false_iff_not, Bool.not_eq_true', Bool.not_eq_false'] at h9); omega
        · refine ⟨fun z => ∃ k : Nat, z = k ∧ k ≤ l1.length, fun z => (l1.length - z).toNat, ⟨0, rfl, by omega⟩, ?_⟩
          rintro z ⟨k, rfl, hk⟩
          have hg : kt (l1.getD k ((0 : Int), (([] : List Int), (((0 : Int), ((0 : Int), ())), ())))) = kt (l2.getD k ((0 : Int), (([] : List Int), (((0 : Int), ((0 : Int), ())), ())))) := by rw [kt_getD, kt_getD, hll]
          have hg1 := congrArg Prod.fst hg
          have hg2 := congrArg Prod.snd hg
          simp only [kt] at hg1 hg2
          refine ⟨fun h10 => ?_, fun _ => ⟨rfl, rfl⟩⟩
          (simp only [decide_eq_true_eq, decide_eq_false_iff_not, Bool.not_eq_true', Bool.not_eq_false'] at h10)
          rw [Int.toNat_natCast]
          refine ⟨⟨by omega⟩, ⟨by omega⟩, fun h11 => ?_, fun h11 => ⟨⟨by omega⟩, ⟨by omega⟩, fun h12 => ?_, fun h12 => ⟨⟨by omega⟩, ⟨rfl, rfl⟩, ⟨k + 1, by omega, by omega⟩, ⟨by ((try dsimp only); omega)⟩⟩⟩⟩
          · (simp only [decide_eq_true_eq, decide_eq_false_iff_not, Bool.not_eq_true', Bool.not_eq_false'] at h11); exact absurd hg1 h11
          · rw [hg2] at h12; simp at h12
end Go.Am.L
