/-
  A part of the proof of a law: see the text that states it.
-/
import Derived.Test.YtpbabncglokikaaDoorN
import Derived.Test.YtpbabncglokikaaDoorVcI
set_option linter.all false
namespace Go.Am.L
open Go Go.Am.Pr
set_option maxRecDepth 100000
theorem cntB_snoc (c : Int) : ∀ (l : List Int) (a : Int), cntB (l ++ [a]) c = cntB l c + if a = c then 1 else 0
  | [], a => by simp only [List.nil_append, cntB]; split <;> rfl
  | b :: l, a => by
    simp only [List.cons_append, cntB, cntB_snoc c l a]
    split <;> split <;> omega
theorem posK_nl (a : List Int) : posK (a ++ [10]) = (1 + cntB a 10 + 1, 1, ()) := by
  unfold posK
  rw [cntB_snoc, lastB_snoc, if_pos rfl, if_pos rfl, List.length_append]
  have h1 : 1 + (cntB a 10 + 1) = 1 + cntB a 10 + 1 := by omega
  have h2 : ((a.length + [10].length : Nat) : Int) - (a.length : Int) = 1 := by simp only [List.length_cons, List.length_nil]; omega
  have h2 : ((a.length + [(10 : Int)].length : Nat) : Int) - (a.length : Int) = 1 := by simp only [List.length_cons, List.length_nil]; omega
  rw [h1, h2]
theorem posK_other (a : List Int) (c : Int) (h : c ≠ 10) : posK (a ++ [c]) = (1 + cntB a 10, (a.length : Int) - lastB a 10 + 1, ()) := by
  unfold posK
  rw [cntB_snoc, lastB_snoc, if_neg h, if_neg h, List.length_append]
  have h1 : 1 + (cntB a 10 + 0) = 1 + cntB a 10 := by omega
  have h2 : ((a.length + [c].length : Nat) : Int) - lastB a 10 = (a.length : Int) - lastB a 10 + 1 := by simp only [List.length_cons, List.length_nil]; omega
  rw [h1, h2]
theorem at18_ev (s : List Int) (i : Int) (hl : s.length ≤ 1000000) : E 18 [.tv [] .str s, .tv [] (.int .i64) i] [] (.tv [] W3 (posK (s.take (max 0 (min i s.length)).toNat))) [] := by
  refine ev_of (vc18 s i _ ?_)
  generalize hm : max 0 (min i (s.length : Int)) = m
  have hm0 : 0 ≤ m ∧ m ≤ s.length := by omega
  refine ⟨fun z a b => ∃ k : Nat, z = k ∧ (k : Int) ≤ m ∧ (a, b, ()) = posK (s.take k), fun z _ _ => (m - z).toNat, ⟨0, rfl, by omega, rfl⟩, ?_⟩
  rintro z a b ⟨k, rfl, hk, hv⟩
  have hb1 := cntB_bound 10 (s.take k)
  have hb2 := lastB_bound 10 (s.take k)
  have hlt : (s.take k).length ≤ s.length := by rw [List.length_take]; omega
  have ha : a = 1 + cntB (s.take k) 10 := congrArg Prod.fst hv
  have hbb : b = ((s.take k).length : Int) - lastB (s.take k) 10 := congrArg (fun q => q.2.1) hv
  refine ⟨fun h => ?_, fun h => ?_⟩
  · (simp only [decide_eq_true_eq, decide_eq_false_iff_not, Bool.not_eq_true', Bool.not_eq_false'] at h)
    have hk' : k < s.length := by omega
    have hts := take_snoc (0 : Int) hk'
    rw [Int.toNat_natCast]
    refine ⟨⟨by omega⟩, ⟨by omega⟩, fun h2 => ⟨⟨by omega⟩, ⟨by omega⟩, ⟨rfl⟩, ⟨k + 1, by omega, by omega, ?_⟩, ⟨by ((try dsimp only); omega)⟩⟩, fun h2 => ⟨⟨by omega⟩, ⟨rfl⟩, ⟨k + 1, by omega, by omega, ?_⟩, ⟨by ((try dsimp only); omega)⟩⟩⟩
    · (simp only [decide_eq_true_eq, decide_eq_false_iff_not, Bool.not_eq_true', Bool.not_eq_false'] at h2)
      rw [hts, h2, posK_nl, ha]
    · (simp only [decide_eq_true_eq, decide_eq_false_iff_not, Bool.not_eq_true', Bool.not_eq_false'] at h2)
      rw [hts, posK_other _ _ h2, ha, hbb]
  · (simp only [decide_eq_true_eq, decide_eq_false_iff_not, Bool.not_eq_true', Bool.not_eq_false'] at h)
    have : m.toNat = k := by omega
    rw [this, ← hv]; exact ⟨rfl, rfl⟩
theorem in_ev (s : List Int) (n : Nat) (hl : s.length ≤ 1000000) : E 14 [.tv [] .str s, .tv [] W3 (posK (s.take n))] [] (.tv [] .bool true) [] := by
  obtain ⟨m, hm, hn⟩ : ∃ m, s.take n = s.take m ∧ m ≤ s.length := by
    by_cases h : n ≤ s.length
    · exact ⟨n, rfl, h⟩
    · exact ⟨s.length, by rw [List.take_of_length_le (by omega), List.take_of_length_le (Nat.le_refl _)], Nat.le_refl _⟩
  rw [hm]
  clear hm n
  revert m
  intro n hn
  refine ev_of (vc14 s (posK (s.take n)).1 (posK (s.take n)).2.1 _ ?_)
  refine ⟨fun z => ∃ k : Nat, z = k ∧ k ≤ n, fun z => (n + 1 - z).toNat, ⟨0, rfl, by omega⟩, ?_⟩
  rintro z ⟨k, rfl, hk⟩
  refine ⟨fun h => ?_, fun h => ?_⟩
  · (simp only [decide_eq_true_eq, decide_eq_false_iff_not, Bool.not_eq_true', Bool.not_eq_false'] at h)
    have e := at18_ev s k hl
    have hm : (max 0 (min (k : Int) (s.length : Int))).toNat = k := by omega
    rw [hm] at e
    refine ⟨_, _, ⟨e⟩, fun _ => ⟨rfl, rfl⟩, fun h2 => ?_⟩
    have hne : k ≠ n := by
      rintro rfl
      have h3 : (decide ((posK (s.take k)).1 = (posK (s.take k)).1) && (decide ((posK (s.take k)).2.1 = (posK (s.take k)).2.1) && true)) = false := h2
      simp only [decide_true, Bool.and_true] at h3
      cases h3
    exact ⟨⟨by omega⟩, ⟨rfl⟩, ⟨k + 1, by omega, by omega⟩, ⟨by ((try dsimp only); omega)⟩⟩
  · (simp only [decide_eq_true_eq, decide_eq_false_iff_not, Bool.not_eq_true', Bool.not_eq_false'] at h)
    omega
def posLt (p q : Int × Int × Unit) : Prop := p.1 < q.1 ∨ p.1 = q.1 ∧ p.2.1 < q.2.1
theorem posLt_step (a : List Int) (c : Int) : posLt (posK a) (posK (a ++ [c])) := by
  by_cases h : c = 10
  · subst h
    rw [posK_nl]
    exact .inl (show 1 + cntB a 10 < 1 + cntB a 10 + 1 by omega)
  · rw [posK_other a c h]
    exact .inr ⟨rfl, show (a.length : Int) - lastB a 10 < (a.length : Int) - lastB a 10 + 1 by omega⟩
theorem posLt_trans {p q r : Int × Int × Unit} (h1 : posLt p q) (h2 : posLt q r) : posLt p r := by
  unfold posLt at *
  omega
theorem posLt_take (s : List Int) : ∀ (d k : Nat), k + d + 1 ≤ s.length → posLt (posK (s.take k)) (posK (s.take (k + d + 1)))
  | 0, k, h => by
    rw [Nat.add_zero, take_snoc (0 : Int) (by omega : k < s.length)]
    exact posLt_step _ _
  | d + 1, k, h => by
    rw [take_snoc (0 : Int) (by omega : k + (d + 1) < s.length)]
    exact posLt_trans (posLt_take s d k (by omega)) (posLt_step _ _)
theorem text_code : ∀ (f : Nat) (r out : List Int) (k : Nat) {e : Int} {d : Nat}, r.length ≤ f → textL out k r = .error (e, d) → e ≠ 0
  | f, [], out, k, e, d, _, h => by cases h; decide
  | 0, c :: r, out, k, e, d, hf, h => by simp at hf
  | f + 1, c :: r, out, k, e, d, hf, h => by
    rw [textL_cons] at h
    simp only [List.length_cons] at hf
    split at h
    · cases h; decide
    · split at h
      · split at h
        · cases h; decide
        · split at h
          · cases h; decide
          · cases h
      · split at h
        · cases r with
          | nil => cases h; decide
          | cons d r =>
            simp only at h
            split at h
            · cases h; decide
            · exact text_code f r _ _ (by simp at hf; omega) h
        · exact text_code f r _ _ (by omega) h
theorem act_code : ∀ (r w : List Int) (d : Int) (k : Nat) {e : Int} {j : Nat}, actL w d k r = .error (e, j) → e ≠ 0
  | [], w, d, k, e, j, h => by cases h; decide
  | c :: r, w, d, k, e, j, h => by
    simp only [actL] at h
    split at h
    · split at h
      · cases h; decide
      · exact act_code r _ _ _ h
    · split at h
      · split at h
        · exact act_code r _ _ _ h
        · split at h
          · cases h; decide
          · cases h
      · exact act_code r _ _ _ h
theorem cls_code (f : Nat) : ∀ (sm : Bool) (last : Int) (has : List Bool) (k : Nat) (r : List Int) {e : Int} {j : Nat}, clsL f sm last has k r = .error (e, j) → e ≠ 0 := by
  induction f with
  | zero => intro sm last has k r e j h; cases h; decide
  | succ f ih =>
    intro sm last has k r e j h
    cases r with
    | nil => cases h; decide
    | cons c r =>
      rw [clsL_cons] at h
      split at h
      · cases h; decide
      · split at h
        · split at h
          · cases h; decide
          · cases h
        · split at h
          · split at h
            · cases h; decide
            · cases r with
              | nil => cases h; decide
              | cons d r =>
                simp only at h
                split at h
                · cases h; decide
                · split at h
                  · cases h; decide
                  · cases hx : oneS (d :: r) with
                    | none => rw [hx] at h; cases h; decide
                    | some q =>
                      obtain ⟨y, j⟩ := q
                      rw [hx] at h
                      simp only at h
                      split at h
                      · cases h; decide
                      · exact ih _ _ _ _ _ h
          · cases hx : oneS (c :: r) with
            | none => rw [hx] at h; cases h; decide
            | some q =>
              obtain ⟨y, j⟩ := q
              rw [hx] at h
              exact ih _ _ _ _ _ h
theorem tokOf_err {kd : Int} {o : Res} {e : Int} {d : Nat} (h : tokOf kd o = .error (e, d)) : o = .error (e, d) := by
  match o, h with
  | .error q, h => cases h; rfl
theorem tok_code {r : List Int} {e : Int} {d : Nat} (h : tokK r = .error (e, d)) : e ≠ 0 := by
  cases r with
  | nil => cases h; decide
  | cons c r =>
    rw [tokK] at h
    split at h
    · cases h
    · split at h
      · cases h
      · split at h
        · split at h
          · cases h; decide
          · cases h
        · split at h
          · have := tokOf_err h
            unfold wordK at this
            generalize (if (c :: r).tail.head? = some 37 then 1 else runK lowerK (c :: r).tail) = g at this
            dsimp only at this
            by_cases h7 : (c :: r).tail.take g ∈ L.wordsL
            · rw [if_pos h7] at this; cases this
            · rw [if_neg h7] at this; cases this; decide
          · split at h
            · exact text_code _ _ _ _ (Nat.le_refl _) (tokOf_err h)
            · split at h
              · exact cls_code _ _ _ _ _ _ (tokOf_err h)
              · split at h
                · exact act_code _ _ _ _ (tokOf_err h)
                · split at h
                  · cases h
                  · cases h; decide
theorem tok_kind {r : List Int} {kd : Int} {t : List Int} {m : Nat} (h : tokK r = .ok (kd, t, m, true)) : 1 ≤ kd ∧ kd ≤ 9 := by
  cases r with
  | nil => cases h
  | cons c r =>
    rw [tokK] at h
    split at h
    · cases h
    · split at h
      · cases h
      · split at h
        · split at h
          · cases h
          · cases h; decide
        · split at h
          · rw [(tokOf_ok h).1]; decide
          · split at h
            · rw [(tokOf_ok h).1]; decide
            · split at h
              · rw [(tokOf_ok h).1]; decide
              · split at h
                · rw [(tokOf_ok h).1]; decide
                · split at h
                  · have h1 : signK c = kd := congrArg (fun q => match q with | .ok (a, _) => a | .error _ => (0 : Int)) h
                    rw [← h1]
                    unfold signK
                    split
                    · decide
                    · split
                      · decide
                      · split <;> decide
                  · cases h
theorem lexS_code : ∀ (f k : Nat) (r : List Int) {e : Int} {d : Nat}, lexS f k r = .error (e, d) → e ≠ 0
  | 0, k, r, e, d, h => by cases h
  | f + 1, k, [], e, d, h => by cases h
  | f + 1, k, c :: r, e, d, h => by
    rw [lexS_cons] at h
    cases hx : tokK (c :: r) with
    | error q =>
      rw [hx] at h
      obtain ⟨e', d'⟩ := q
      have : e' = e := by cases h; rfl
      subst this
      exact tok_code hx
    | ok q =>
      obtain ⟨kd, t, m, ok⟩ := q
      rw [hx] at h
      simp only at h
      cases hy : lexS f (k + m) ((c :: r).drop m) with
      | error q =>
        rw [hy] at h
        obtain ⟨e', d'⟩ := q
        have : e' = e := by cases h; rfl
        subst this
        exact lexS_code f _ _ hy
      | ok l => rw [hy] at h; cases h
/-- Marks stand in order, and inside. -/
def Sorted (k n : Nat) : List Mk → Prop
  | [] => True
  | q :: l => 1 ≤ q.1 ∧ q.1 ≤ 9 ∧ k ≤ q.2.2 ∧ q.2.2 < n ∧ Sorted (q.2.2 + 1) n l
theorem Sorted.le : ∀ {l : List Mk} {k j n : Nat}, j ≤ k → Sorted k n l → Sorted j n l
  | [], _, _, _, _, _ => trivial
  | _ :: _, _, _, _, h, ⟨h1, h2, h3, h4, h5⟩ => ⟨h1, h2, by omega, h4, h5⟩
theorem lexS_sorted : ∀ (f k : Nat) (r : List Int) {l : List Mk}, (∀ c ∈ r, 0 ≤ c ∧ c < 256) → lexS f k r = .ok l → Sorted k (k + r.length) l
  | 0, k, r, l, _, h => by cases h; trivial
  | f + 1, k, [], l, _, h => by cases h; trivial
  | f + 1, k, c :: r, l, hr, h => by
    rw [lexS_cons] at h
    cases hx : tokK (c :: r) with
    | error q => rw [hx] at h; cases h
    | ok q =>
      obtain ⟨kd, t, m, ok⟩ := q
      have hm := tokK_len hr hx
      rw [hx] at h
      simp only at h
      cases hy : lexS f (k + m) ((c :: r).drop m) with
      | error q => rw [hy] at h; cases h
      | ok l' =>
        rw [hy] at h
        have ih := lexS_sorted f _ _ (fun b hb => hr b (List.mem_of_mem_drop hb)) hy
        have hl : k + m + ((c :: r).drop m).length = k + (c :: r).length := by rw [List.length_drop]; omega
        rw [hl] at ih
        cases ok with
        | false => cases h; exact ih.le (by omega)
        | true =>
          cases h
          obtain ⟨k1, k2⟩ := tok_kind hx
          exact ⟨k1, k2, Nat.le_refl _, by dsimp only; omega, ih.le (by dsimp only; omega)⟩
theorem Sorted.told (s : List Int) : ∀ (l : List Mk) (k : Nat), k ≤ s.length → Sorted k s.length l → ∃ n : Nat → Nat, k ≤ n 0 ∧ (∀ i, i < (l.map (markOf s) ++ [(0, [], posK s, ())]).length → ((l.map (markOf s) ++ [(0, [], posK s, ())]).getD i ((0 : Int), (([] : List Int), (((0 : Int), ((0 : Int), ())), ())))).2.2.1 = posK (s.take (n i)) ∧ n i ≤ s.length) ∧
    (∀ i, i + 1 < (l.map (markOf s) ++ [(0, [], posK s, ())]).length → n i < n (i + 1) ∧ 1 ≤ ((l.map (markOf s) ++ [(0, [], posK s, ())]).getD i ((0 : Int), (([] : List Int), (((0 : Int), ((0 : Int), ())), ())))).1 ∧ ((l.map (markOf s) ++ [(0, [], posK s, ())]).getD i ((0 : Int), (([] : List Int), (((0 : Int), ((0 : Int), ())), ())))).1 ≤ 9)
  | [], k, hk, _ => ⟨fun _ => s.length, hk, fun i hi => by
      have : i = 0 := by simp at hi; omega
      subst this
      exact ⟨by rw [List.take_of_length_le (Nat.le_refl _)]; rfl, Nat.le_refl _⟩, fun i hi => by simp at hi⟩
  | q :: l, k, hk, ⟨h1, h2, h3, h4, h5⟩ => by
    obtain ⟨n, g0, g1, g2⟩ := Sorted.told s l (q.2.2 + 1) (by omega) h5
    refine ⟨fun i => match i with | 0 => q.2.2 | i + 1 => n i, h3, fun i hi => ?_, fun i hi => ?_⟩
    · cases i with
      | zero => exact ⟨rfl, by dsimp only; omega⟩
      | succ i => exact g1 i (by simp at hi ⊢; omega)
    · cases i with
      | zero => exact ⟨by dsimp only; omega, h1, h2⟩
      | succ i => exact g2 i (by simp at hi ⊢; omega)
theorem insides (s : List Int) (hs : ∀ c ∈ s, 0 ≤ c ∧ c < 256) : E 4 [.tv [] .str s] [] (.tv [] .bool true) [] := by
  refine ev_of (vc4 s _ ?_)
  refine ⟨_, ⟨awake_ev⟩, fun _ => ⟨rfl, rfl⟩, fun h1 => ?_⟩
  (simp only [decide_eq_true_eq, decide_eq_false_iff_not, Bool.not_eq_true', Bool.not_eq_false'] at h1)
  have he := lex_ev s (by omega) hs
  cases hA : lexS s.length 0 s with
  | error q =>
    obtain ⟨e, k⟩ := q
    rw [hA] at he
    have hne := lexS_code _ _ _ hA
    refine ⟨_, e, _, _, ⟨he⟩, fun _ => ⟨fun _ => ⟨fun _ => ⟨_, ⟨in_ev s k (by omega)⟩, rfl, rfl⟩, nofun⟩, nofun⟩, fun h2 => ?_⟩
    (simp only [decide_eq_true_eq, decide_eq_false_iff_not, Bool.not_eq_true', Bool.not_eq_false'] at h2)
    simp only [ne_eq, Decidable.not_not] at h2
    exact absurd h2 hne
  | ok l =>
    rw [hA] at he
    have hso := lexS_sorted _ _ _ hs hA
    rw [Nat.zero_add] at hso
    obtain ⟨n, _, g1, g2⟩ := Sorted.told s l 0 (Nat.zero_le _) hso
    have hly : (l.map (markOf s) ++ [(0, [], posK s, ())]).length = l.length + 1 := by simp
    have hlast : (l.map (markOf s) ++ [((0 : Int), ([] : List Int), posK s, ())]).getD l.length ((0 : Int), (([] : List Int), (((0 : Int), ((0 : Int), ())), ()))) = (0, [], posK s, ()) := by
      simp [List.getD_eq_getElem?_getD]
    have hcount : l.length ≤ 300 := by
      have : ∀ (l : List Mk) (k n : Nat), k ≤ n → Sorted k n l → l.length + k ≤ n := by
        intro l
        induction l with
        | nil => intro k n h _; simpa using h
        | cons q l ih =>
          intro k n h hs
          obtain ⟨_, _, h3, h4, h5⟩ := hs
          have := ih _ _ (by omega) h5
          simp only [List.length_cons]; omega
      have := this l 0 s.length (Nat.zero_le _) hso
      omega
    have he' : E 11 [.tv [] .str s] [] (.tup [.tv [] (.slice TMark) (l.map (markOf s) ++ [(0, [], posK s, ())]), .tv [] TDiag (0, (0, 0, ()), ())]) [] := he
    generalize hy : l.map (markOf s) ++ [((0 : Int), ([] : List Int), posK s, ())] = y at *
    have hi1 : Int.toNat ((y.length : Int) - 1) = l.length := by omega
    refine ⟨y, 0, 0, 0, ⟨he'⟩, nofun, fun _ => ⟨fun h2 => ?_, fun h2 => ⟨⟨by omega⟩, ⟨by omega⟩, fun h3 => ?_, fun h3 => ⟨⟨by omega⟩, ⟨by omega⟩, fun h4 => ?_, fun h4 => ?_⟩⟩⟩⟩
    · (simp only [decide_eq_true_eq, decide_eq_false_iff_not, Bool.not_eq_true', Bool.not_eq_false'] at h2); omega
    · rw [hi1, hlast] at h3; cases h3
    · rw [hi1, hlast] at h4; cases h4
    · refine ⟨fun z => ∃ k : Nat, z = k ∧ k ≤ y.length, fun z => (y.length - z).toNat, ⟨0, rfl, by omega⟩, ?_⟩
      rintro z ⟨k, rfl, hk⟩
      refine ⟨fun h5 => ?_, fun h5 => ⟨fun _ => ⟨rfl, rfl⟩, nofun⟩⟩
      (simp only [decide_eq_true_eq, decide_eq_false_iff_not, Bool.not_eq_true', Bool.not_eq_false'] at h5)
      rw [Int.toNat_natCast]
      have hk1 : Int.toNat ((k : Int) + 1) = k + 1 := by omega
      rw [hk1]
      obtain ⟨p1, p2⟩ := g1 k (by omega)
      refine ⟨⟨by omega⟩, true, ⟨by rw [p1]; exact in_ev s (n k) (by omega)⟩, nofun, fun _ => ⟨⟨by omega⟩, fun h6 => ?_, fun h6 => ⟨⟨by omega⟩, ⟨rfl⟩, ⟨k + 1, by omega, by omega⟩, ⟨by ((try dsimp only); omega)⟩⟩⟩⟩
      (simp only [decide_eq_true_eq, decide_eq_false_iff_not, Bool.not_eq_true', Bool.not_eq_false'] at h6)
      obtain ⟨r1, r2⟩ := g1 (k + 1) (by omega)
      obtain ⟨q1, q2, q3⟩ := g2 k (by omega)
      have hlt := posLt_take s (n (k + 1) - n k - 1) (n k) (by omega)
      have hnn : n k + (n (k + 1) - n k - 1) + 1 = n (k + 1) := by omega
      rw [hnn, ← p1, ← r1] at hlt
      unfold posLt at hlt
      refine ⟨⟨by omega⟩, fun h7 => ?_, fun h7 => ⟨⟨by omega⟩, fun h8 => ?_, fun h8 => ⟨⟨by omega⟩, ⟨by omega⟩, ⟨by omega⟩, fun h9 => ?_, fun h9 => ⟨⟨by omega⟩, ⟨by omega⟩, ⟨by omega⟩, fun h10 => ⟨⟨by omega⟩, ⟨by omega⟩, ⟨by omega⟩, fun h11 => ?_, fun h11 => ⟨⟨by omega⟩, ⟨rfl⟩, ⟨k + 1, by omega, by omega⟩, ⟨by ((try dsimp only); omega)⟩⟩⟩, fun h10 => ⟨⟨by omega⟩, ⟨rfl⟩, ⟨k + 1, by omega, by omega⟩, ⟨by ((try dsimp only); omega)⟩⟩⟩⟩⟩⟩
      · (simp only [decide_eq_true_eq, decide_eq_false_iff_not, Bool.not_eq_true', Bool.not_eq_false'] at h7); omega
      · (simp only [decide_eq_true_eq, decide_eq_false_iff_not, Bool.not_eq_true', Bool.not_eq_false'] at h8); omega
      · (simp only [decide_eq_true_eq, decide_eq_false_iff_not, Bool.not_eq_true', Bool.not_eq_false'] at h9); omega
      · (simp only [decide_eq_true_eq, decide_eq_false_iff_not, Bool.not_eq_true', Bool.not_eq_false'] at h10 h11); omega
end Go.Am.L
