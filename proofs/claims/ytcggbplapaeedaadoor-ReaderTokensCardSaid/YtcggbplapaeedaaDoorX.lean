/-
  A part of the proof of a law: see the text that states it.
-/
import Derived.Test.YtcggbplapaeedaaDoorY
import Derived.Test.YtcggbplapaeedaaDoorG
import Derived.Test.YtcggbplapaeedaaDoorVcE
import Derived.Test.YtcggbplapaeedaaDoorV
set_option linter.all false
namespace Go.Am.R
open Go Go.Am.Pr Go.Am.R.L
set_option maxRecDepth 100000
set_option maxHeartbeats 1000000
abbrev W2 := List qT3
def lnT (w : List Int) : List Int := (((([37, 116, 111, 107, 101, 110, 32] ++ w) ++ [32, 34]) ++ w) ++ [34, 10])
def lnM (w : List Int) : List Mk := [(2, tokenT, 0), (1, w, 7), (3, w, 10)]
def Wd (w : List Int) : Prop := w.length = 2 ∧ nameK w = true ∧ ∀ c ∈ w, 97 ≤ c ∧ c ≤ 122
theorem lnT_len {w : List Int} (h : Wd w) : (lnT w).length = 15 := by simp [lnT, h.1]
theorem Wd.byte {w : List Int} (h : Wd w) : ∀ c ∈ w, 0 ≤ c ∧ c < 256 := fun c hc => by have := h.2.2 c hc; omega
theorem lx_ln {w : List Int} (h : Wd w) : LxP (lnT w) (lnM w) Any := by
 have hne : w ≠ [] := by rintro rfl; have := h.1; simp at this
 have a1 : Tok (37 :: tokenT) 2 tokenT true Sep := tk_word (by decide) (by decide) (by decide) (by decide)
 have a2 := (tk_space (c := 32) (.inl rfl)).lxP
 have a3 := (tk_name h.2.1 (by rw [h.1]; decide)).lxP
 have a4 := (tk_text h.byte hne (by rw [h.1]; decide)).lxP
 rw [escT_plain w h.2.2] at a4
 have a5 := (tk_space (c := 10) (.inr (.inr (.inl rfl)))).lxP
 have b1 := a1.lxP.app (a2.app (a3.app (a2.app (a4.app a5 fun _ _ => trivial) fun _ _ => trivial) fun x _ => sep_32 _) fun _ _ => trivial) fun x _ => sep_32 _
 have e : 37 :: tokenT ++ ([32] ++ (w ++ ([32] ++ ([34] ++ w ++ [34] ++ [10])))) = lnT w := by simp [lnT, tokenT]
 rw [e] at b1
 simpa [lnM, h.1, tokenT] using b1
def lnsT (l : W2) : List Int := l.flatMap lnT
def lnsM : Nat → W2 → List Mk
 | _, [] => []
 | k, w :: l => (2, tokenT, k) :: (1, w, k + 7) :: (3, w, k + 10) :: lnsM (k + 15) l
theorem lnsM_shift (j : Nat) : ∀ (k : Nat) (l : W2), (lnsM k l).map (fun q => (q.1, q.2.1, j + q.2.2)) = lnsM (j + k) l
 | _, [] => rfl
 | k, w :: l => by simp [lnsM, lnsM_shift j (k + 15) l, Nat.add_assoc]
theorem lx_lns : ∀ (l : W2), (∀ w ∈ l, Wd w) → LxP (lnsT l) (lnsM 0 l) Any
 | [], _ => LxP.nil
 | w :: l, h => by
  have h1 := lx_ln (h w (List.mem_cons_self ..))
  have h2 := h1.app (lx_lns l fun v hv => h v (List.mem_cons_of_mem _ hv)) fun _ _ => trivial
  rw [lnT_len (h w (List.mem_cons_self ..)), lnsM_shift] at h2
  exact h2
theorem lnsT_len : ∀ (l : W2), (∀ w ∈ l, Wd w) → (lnsT l).length = 15 * l.length
 | [], _ => rfl
 | w :: l, h => by
  have := lnsT_len l fun v hv => h v (List.mem_cons_of_mem _ hv)
  rw [lnsT] at this ⊢
  rw [List.flatMap_cons, List.length_append, this, lnT_len (h w (List.mem_cons_self ..)), List.length_cons]; omega
abbrev endT : List Int := [37, 37, 32, 101, 32, 58, 32, 59]
abbrev endM : List Mk := [(2, [37], 0), (1, [101], 3), (6, [], 5), (8, [], 7)]
theorem lx_end : LxP endT endM Any := by
 have s := (tk_space (c := 32) (.inl rfl)).lxP
 have a := tk_two.lxP.app (s.app ((tk_name (w := [101]) (by decide) (by decide)).lxP.app (s.app ((tk_sign (c := 58) (by decide)).lxP.app (s.app (tk_sign (c := 59) (by decide)).lxP fun _ _ => trivial) fun _ _ => trivial) fun _ _ => trivial) fun x _ => sep_32 _) fun _ _ => trivial) fun _ _ => trivial
 exact a
theorem posK_app : ∀ (b a : List Int), (∀ c ∈ b, c ≠ 10) → posK (a ++ b) = ((posK a).1, (posK a).2.1 + b.length, ())
 | [], a, _ => by simp
 | c :: b, a, h => by
  have e : a ++ c :: b = (a ++ [c]) ++ b := by simp
  rw [e, posK_app b _ (fun d hd => h d (List.mem_cons_of_mem _ hd)), posK_other a c (h c (List.mem_cons_self ..))]
  simp only [posK, List.length_cons]
  congr 2
  omega
theorem posK_ln {w : List Int} (h : Wd w) (a : List Int) : posK (a ++ lnT w) = ((posK a).1 + 1, 1, ()) := by
 have e : a ++ lnT w = (a ++ (((([37, 116, 111, 107, 101, 110, 32] ++ w) ++ [32, 34]) ++ w) ++ [34])) ++ [10] := by simp [lnT]
 have hp := posK_app (((([37, 116, 111, 107, 101, 110, 32] ++ w) ++ [32, 34]) ++ w) ++ [34]) a (by
  intro c hc
  simp only [List.mem_append, List.mem_cons, List.not_mem_nil, or_false] at hc
  have hw : c ∈ w → c ≠ 10 := fun q => by have := h.2.2 c q; omega
  rcases hc with (((q | q) | q) | q) | q
  ·omega
  ·exact hw q
  ·omega
  ·exact hw q
  ·omega)
 rw [e, posK_nl]
 have := congrArg Prod.fst hp
 simp only [posK] at this ⊢
 rw [this]
theorem posK_lns : ∀ (l : W2) (a : List Int), (∀ w ∈ l, Wd w) → (posK a).2.1 = 1 → posK (a ++ lnsT l) = ((posK a).1 + l.length, 1, ())
 | [], a, _, h => by
  simp only [lnsT, List.flatMap_nil, List.append_nil, List.length_nil]
  rw [← h]; simp [posK]
 | w :: l, a, hw, h => by
  have e : a ++ lnsT (w :: l) = (a ++ lnT w) ++ lnsT l := by simp [lnsT]
  have h1 := posK_ln (hw w (List.mem_cons_self ..)) a
  rw [e, posK_lns l _ (fun v hv => hw v (List.mem_cons_of_mem _ hv)) (by rw [h1]), h1]
  simp only [List.length_cons]
  congr 1
  omega
theorem pos_name (l m : W2) (x : List Int) (hl : ∀ w ∈ l, Wd w) (hm : m ≠ []) : posK ((lnsT (l ++ m) ++ x).take (15 * l.length + 7)) = ((l.length : Int) + 1, 8, ()) := by
 cases m with
 | nil => exact absurd rfl hm
 | cons w m =>
  have e : lnsT (l ++ w :: m) ++ x = lnsT l ++ ([37, 116, 111, 107, 101, 110, 32] ++ (w ++ [32, 34] ++ w ++ [34, 10] ++ lnsT m ++ x)) := by simp [lnsT, lnT]
  have hlen := lnsT_len l hl
  rw [e, List.take_append, hlen]
  have e2 : (lnsT l).take (15 * l.length + 7) = lnsT l := List.take_of_length_le (by omega)
  have e3 : 15 * l.length + 7 - 15 * l.length = 7 := by omega
  rw [e2, e3]
  have e4 : ([37, 116, 111, 107, 101, 110, 32] ++ (w ++ [32, 34] ++ w ++ [34, 10] ++ lnsT m ++ x)).take 7 = [(37 : Int), 116, 111, 107, 101, 110, 32] := rfl
  have h0 := posK_lns l [] hl (by decide)
  rw [List.nil_append] at h0
  rw [e4, posK_app _ _ (by decide), h0]
  have : (posK []).1 = 1 := by decide
  rw [this]
  have : (1 : Int) + (l.length : Int) = (l.length : Int) + 1 := by omega
  rw [this]; rfl
def scan : W2 → W2 → Option (Int × Nat)
 | [], _ => none
 | w :: ws, seen => if w ∈ seen then some (15, 0) else if 20 ≤ seen.length then some (3, 0) else (scan ws (seen ++ [w])).map fun q => (q.1, q.2 + 1)
abbrev tkOf (w : List Int) : Tk := (w, ((w, ([], (false, ()))), ()))
theorem toks_read (S : List Int) (l : List Mk) (tl : List L.Mark) : ∀ (ws : W2) (k f : Nat) (s : G), (∀ n, Pr.mget s.tm n false = true ↔ n ∈ s.tk.map (·.1)) → (hd tl).1 ≠ 5 → ws.length < f →
    (∃ c j r' s', scan ws (s.tk.map (·.1)) = some (c, j) ∧ j < ws.length ∧ declsK f ((lnsM k ws).map (markOf S) ++ tl) s = (some (c, posK (S.take (k + 15 * j + 7))), r', s')) ∨
    (scan ws (s.tk.map (·.1)) = none ∧ ∃ tm, declsK f ((lnsM k ws).map (markOf S) ++ tl) s = declsK (f - ws.length) tl { s with tk := s.tk ++ ws.map tkOf, tm := tm })
  | [], k, f, s, _, _, _ => .inr ⟨rfl, s.tm, by simp [lnsM]⟩
  | w :: ws, k, f, s, hm, ht, hf => by
    simp only [List.length_cons] at hf
    obtain ⟨f, rfl⟩ : ∃ g, f = g + 1 := ⟨f - 1, by omega⟩
    have e : (lnsM k (w :: ws)).map (markOf S) ++ tl = markOf S (2, tokenT, k) :: markOf S (1, w, k + 7) :: markOf S (3, w, k + 10) :: ((lnsM (k + 15) ws).map (markOf S) ++ tl) := rfl
    have step : ∀ (rest : List L.Mark), declsK (f + 1) (markOf S (2, tokenT, k) :: markOf S (1, w, k + 7) :: markOf S (3, w, k + 10) :: rest) s =
        match tokenK (markOf S (1, w, k + 7) :: markOf S (3, w, k + 10) :: rest) s with
        | (some e, r', s') => (some e, r', s')
        | (none, r', s') => declsK f r' s' := fun rest => by
      rw [declsK, if_neg (by rw [hd_cons]; exact fun q => q rfl), if_neg (by rw [hd_cons]; exact (by decide : ¬ tokenT = [37])), hd_cons]
      have : declK (markOf S (2, tokenT, k)) (markOf S (1, w, k + 7) :: markOf S (3, w, k + 10) :: rest) s = some (tokenK (markOf S (1, w, k + 7) :: markOf S (3, w, k + 10) :: rest) s) := by rw [declK, if_pos (show (markOf S (2, tokenT, k)).2.1 = tokenT from rfl)]
      rw [List.tail_cons, this]
      rcases tokenK (markOf S (1, w, k + 7) :: markOf S (3, w, k + 10) :: rest) s with ⟨_ | e, r', s'⟩ <;> rfl
    rw [e, step, tokenK, hd_cons, if_neg (fun q => q rfl)]
    have hmw : Pr.mget s.tm (markOf S (1, w, k + 7)).2.1 false = true ↔ w ∈ s.tk.map (·.1) := hm w
    by_cases h1 : w ∈ s.tk.map (·.1)
    · rw [if_pos (hmw.2 h1)]
      exact .inl ⟨15, 0, _, _, by rw [scan, if_pos h1], by simp, rfl⟩
    · rw [if_neg (fun q => h1 (hmw.1 q))]
      by_cases h2 : 20 ≤ s.tk.length
      · rw [if_pos h2]
        exact .inl ⟨3, 0, _, _, by rw [scan, if_neg h1, if_pos (by rw [List.length_map]; exact h2)], by simp, rfl⟩
      · rw [if_neg h2, List.tail_cons, patK, if_pos (by rw [hd_cons]; rfl), hd_cons]
        simp only [List.tail_cons]
        have ih := toks_read S l tl ws (k + 15) f { s with tm := Pr.mset s.tm w true, tk := s.tk ++ [tkOf w] } (fun n => by
          rw [mget_mset, List.map_append, List.mem_append]
          by_cases hn : n = w
          · rw [if_pos hn]; exact ⟨fun _ => .inr (by simp [tkOf, hn]), fun _ => rfl⟩
          · rw [if_neg hn, hm n]
            exact ⟨.inl, fun q => q.elim id fun q => absurd (by simpa [tkOf] using q) hn⟩) ht (by omega)
        have hs : (s.tk ++ [tkOf w]).map (·.1) = s.tk.map (·.1) ++ [w] := by simp [tkOf]
        have hsc : scan (w :: ws) (s.tk.map (·.1)) = (scan ws (s.tk.map (·.1) ++ [w])).map fun q => (q.1, q.2 + 1) := by rw [scan, if_neg h1, if_neg (by rw [List.length_map]; exact h2)]
        simp only [hs] at ih
        rcases ih with ⟨c, j, r', s', i1, i2, i3⟩ | ⟨i1, tm, i2⟩
        · refine .inl ⟨c, j + 1, r', s', by rw [hsc, i1]; rfl, by simp; omega, ?_⟩
          have e9 : k + 15 * (j + 1) + 7 = k + 15 + 15 * j + 7 := by omega
          rw [e9]; exact i3
        · refine .inr ⟨by rw [hsc, i1]; rfl, tm, ?_⟩
          have e9 : f + 1 - (w :: ws).length = f - ws.length := by simp
          rw [e9]
          refine i2.trans ?_
          simp
theorem scan_snoc : ∀ (ws seen : W2) (w : List Int), scan (ws ++ [w]) seen = match scan ws seen with
  | some q => some q
  | none => if w ∈ seen ++ ws then some (15, ws.length) else if 20 ≤ (seen ++ ws).length then some (3, ws.length) else none
 | [], seen, w => by
  simp only [List.nil_append, scan, List.append_nil, List.length_nil]
  split
  ·rfl
  ·split <;> rfl
 | v :: ws, seen, w => by
  rw [List.cons_append, scan, scan]
  by_cases h1 : v ∈ seen
  ·rw [if_pos h1, if_pos h1]
  ·rw [if_neg h1, if_neg h1]
   by_cases h2 : 20 ≤ seen.length
   ·rw [if_pos h2, if_pos h2]
   ·rw [if_neg h2, if_neg h2, scan_snoc ws (seen ++ [v]) w]
    have e : seen ++ v :: ws = (seen ++ [v]) ++ ws := by simp
    cases scan ws (seen ++ [v]) with
    | some q => rfl
    | none =>
     simp only [Option.map_none, e, List.length_cons]
     split
     ·rfl
     ·split <;> rfl
theorem toks_all (l : W2) (hl : ∀ w ∈ l, Wd w) : (∀ c j, scan l [] = some (c, j) → readK (lnsT l ++ endT) = (gr0, (c, (((j : Int) + 1, (8, ())), ())))) ∧
    (scan l [] = none → readK (lnsT l ++ endT) = ((l.map tkOf, ([], ([], ([101], ([([101], ([], ([], ([], ()))))], ()))))), dg0)) := by
  have hL := ((lx_lns l hl).app lx_end fun _ _ => trivial).told trivial
  have hR := readK_P hL
  rw [List.map_append, List.append_assoc] at hR
  generalize hS : lnsT l ++ endT = S at hR ⊢
  generalize hT : ((endM.map fun q => (q.1, q.2.1, (lnsT l).length + q.2.2)).map (markOf S) ++ [(0, ([], (posK S, ())))] : List L.Mark) = tl at hR
  have hk : kts tl = [(2, [37]), (1, [101]), (6, []), (8, []), (0, [])] := by rw [← hT]; rfl
  have h5 : (hd tl).1 ≠ 5 := by rw [hd1, hk]; exact (by decide : (2 : Int) ≠ 5)
  have hlen : l.length < ((lnsM 0 l).map (markOf S) ++ tl).length + 1 := by
    have : ∀ (l : W2) (k : Nat), l.length ≤ (lnsM k l).length := by
      intro l
      induction l with
      | nil => intro k; exact Nat.le_refl _
      | cons w l ih => intro k; have := ih (k + 15); simp only [lnsM, List.length_cons]; omega
    have := this l 0
    rw [List.length_append, List.length_map]; omega
  have hF := toks_read S [] tl l 0 (((lnsM 0 l).map (markOf S) ++ tl).length + 1) G0 (fun n => by simp [Pr.mget]) h5 hlen
  have hG : (G0.tk.map (·.1) : W2) = [] := rfl
  rw [hG] at hF
  refine ⟨fun c j hsc => ?_, fun hsc => ?_⟩
  · rcases hF with ⟨c', j', r', s', i1, i2, i3⟩ | ⟨i1, _⟩
    · rw [hsc] at i1
      cases i1
      have hp := pos_name (l.take j) (l.drop j) endT (fun w hw => hl w (List.mem_of_mem_take hw)) (by
        intro q
        have := List.drop_eq_nil_iff.1 q
        omega)
      rw [List.take_append_drop, List.length_take, Nat.min_eq_left (by omega), hS] at hp
      rw [Nat.zero_add, hp] at i3
      rw [hR, marksK, allK, i3]
    · rw [hsc] at i1; cases i1
  · rcases hF with ⟨c', j', r', s', i1, i2, i3⟩ | ⟨i1, tm, i2⟩
    · rw [hsc] at i1; cases i1
    · obtain ⟨f, hf⟩ : ∃ f, ((lnsM 0 l).map (markOf S) ++ tl).length + 1 - l.length = f + 1 := ⟨((lnsM 0 l).map (markOf S) ++ tl).length - l.length, by omega⟩
      rw [hf, declsK_end hk] at i2
      have k2 : kts tl.tail = (1, [101]) :: (6, []) :: (altM [] [] [] ++ (8, []) :: [(0, [])]) := by rw [kts_tail, hk]; rfl
      obtain ⟨r2, j1, j2⟩ := ruleK_fwd { G0 with tk := G0.tk ++ l.map tkOf, tm := tm } k2
      obtain ⟨r3, q1, q2⟩ := altsK_end tl.tail.length [101] { G0 with tk := G0.tk ++ l.map tkOf, tm := tm } j2 (by decide) (show ([] : List Rl).length < 40 by decide)
      rw [hR, marksK_ok (r' := r3) (s' := { G0 with tk := G0.tk ++ l.map tkOf, tm := tm, rl := [] ++ [([101], ([], ([], ([], ()))))] }) ?_]
      · simp [grOf]
      · rw [allK, i2]
        simp only
        rw [rulesK, if_pos (.inl rfl), j1, q1]
        simp only
        exact rulesK_stop (by rw [q2]; rfl) (by simp)
theorem Wd_W (n : Int) (h : 0 ≤ n ∧ n < 256) : Wd (W n) := by
 obtain ⟨m, rfl, hm⟩ := W_is n h
 exact W_all m hm
theorem lnT_mem {w : List Int} (h : Wd w) : ∀ c ∈ lnT w, 0 ≤ c ∧ c < 256 := by
 intro c hc
 unfold lnT at hc
 simp only [List.mem_append, List.mem_cons, List.not_mem_nil, or_false] at hc
 rcases hc with (((q | q) | q) | q) | q
 ·omega
 ·exact h.byte c q
 ·omega
 ·exact h.byte c q
 ·omega
theorem lnsT_snoc (l : W2) (w : List Int) : lnsT (l ++ [w]) = ((((lnsT l ++ [37, 116, 111, 107, 101, 110, 32]) ++ w) ++ [32, 34]) ++ w) ++ [34, 10] := by simp [lnsT, lnT]
theorem tokens (l : List Int) (hl : ∀ i, i < l.length → InR (.int .u8) (l.getD i 0)) : E 5 [.tv [] (.slice (.int .u8)) l] [] (bv true) [] := by
 have hl : ∀ i, i < l.length → 0 ≤ l.getD i 0 ∧ l.getD i 0 < 256 := fun i hi => u8_wf (hl i hi)
 have hW : ∀ i, ∀ w ∈ (l.take i).map W, Wd w := fun i w hw => by
  obtain ⟨x, hx, rfl⟩ := List.mem_map.1 hw
  obtain ⟨k, hk, rfl⟩ := List.mem_iff_getElem.1 (List.mem_of_mem_take hx)
  have := hl k hk
  rw [List.getD_eq_getElem?_getD, List.getElem?_eq_getElem hk] at this
  exact Wd_W _ this
 refine ev_of (vc5 l _ ⟨true, ⟨awake_ev⟩, fun _ => ⟨rfl, rfl⟩, fun h1 => ?_⟩)
 (simp only [decide_eq_true_eq, decide_eq_false_iff_not, Bool.not_eq_true', Bool.not_eq_false'] at h1)
 have hbig : (1000000 : Nat) ≤ bigN := by decide
 refine ⟨fun s want code line z => ∃ i : Nat, z = (i : Int) ∧ i ≤ l.length ∧ s = lnsT ((l.take i).map W) ∧ want.length ≤ i ∧ (code = 0 ∧ want = ((l.take i).map W).map tkOf ∧ scan ((l.take i).map W) [] = none ∧ i ≤ 20 ∨ code ≠ 0 ∧ ∃ j : Nat, scan ((l.take i).map W) [] = some (code, j) ∧ line = (j : Int) + 1), fun _ _ _ _ z => l.length - z.toNat, ⟨0, rfl, Nat.zero_le _, rfl, Nat.le_refl _, .inl ⟨rfl, rfl, rfl, by decide⟩⟩, ?_⟩
 rintro s want code line z ⟨i, rfl, hi, hs, hwl, hT⟩
 have hti : ((l.take i).map W).length = i := by rw [List.length_map]; exact List.length_take_of_le hi
 have hsl := lnsT_len _ (hW i)
 rw [hti, ← hs] at hsl
 refine ⟨fun h2 => ?_, fun h2 => ?_⟩
 ·(simp only [decide_eq_true_eq, decide_eq_false_iff_not, Bool.not_eq_true', Bool.not_eq_false'] at h2)
  have hi' : i < l.length := by omega
  have hw := word_ev (l.getD (Int.toNat (i : Int)) 0) (by rw [Int.toNat_natCast]; exact hl i hi')
  rw [Int.toNat_natCast] at hw ⊢
  have hwl2 := W_len _ (hl i hi')
  generalize hwg : W (l.getD i 0) = w at hw hwl2
  have htk : (l.take (i + 1)).map W = (l.take i).map W ++ [w] := by rw [take_snoc (0 : Int) hi', List.map_append, ← hwg]; rfl
  have hsn : ((((s ++ [37, 116, 111, 107, 101, 110, 32]) ++ w) ++ [32, 34]) ++ w) ++ [34, 10] = lnsT ((l.take (i + 1)).map W) := by rw [htk, lnsT_snoc, hs]
  have hsc := scan_snoc ((l.take i).map W) [] w
  rw [← htk, List.nil_append, hti] at hsc
  refine ⟨⟨by omega⟩, ⟨by omega⟩, w, ⟨hw⟩, ⟨by simp only [List.length_append, List.length_cons, List.length_nil]; omega⟩, ⟨by simp only [List.length_append, List.length_cons, List.length_nil]; omega⟩, ⟨by omega⟩, w, ⟨hw⟩, ⟨by simp only [List.length_append, List.length_cons, List.length_nil]; omega⟩, ⟨by simp only [List.length_append, List.length_cons, List.length_nil]; omega⟩, fun h3 => ⟨⟨by omega⟩, ?_, ⟨by ((try dsimp only); omega)⟩⟩, fun h3 => ⟨⟨by omega⟩, ?_⟩⟩
  ·(simp only [decide_eq_true_eq, decide_eq_false_iff_not, Bool.not_eq_true', Bool.not_eq_false'] at h3)
   rcases hT with ⟨q, _⟩ | ⟨_, j, q1, q2⟩
   ·exact (h3 q).elim
   ·refine ⟨i + 1, rfl, by omega, hsn, by omega, .inr ⟨h3, j, ?_, q2⟩⟩
    rw [hsc, q1]
  ·(simp only [decide_eq_true_eq, decide_eq_false_iff_not, Bool.not_eq_true', Bool.not_eq_false'] at h3)
   have h3 : code = 0 := Classical.not_not.1 h3
   rcases hT with ⟨_, q1, q2, q3⟩ | ⟨q, _⟩
   ·have hwn : want.length = i := by rw [q1, List.length_map, hti]
    have hnm : ∀ k, k < want.length → (want.getD k ([], (([], ([], (false, ()))), ()))).1 = ((l.take i).map W).getD k [] := fun k hk => by
     rw [q1, List.getD_eq_getElem?_getD, List.getElem?_map, List.getD_eq_getElem?_getD]
     rw [hwn] at hk
     rw [List.getElem?_eq_getElem (by rw [hti]; exact hk)]
     rfl
    rw [q2] at hsc
    simp only at hsc
    refine ⟨fun cd z => ∃ k : Nat, z = (k : Int) ∧ k ≤ want.length ∧ cd = if w ∈ ((l.take i).map W).take k then 15 else 0, fun _ z => want.length - z.toNat, ⟨0, rfl, Nat.zero_le _, by rw [List.take_zero, if_neg (by simp), h3]⟩, ?_⟩
    rintro cd z ⟨k, rfl, hk, hcd⟩
    refine ⟨fun h4 => ?_, fun h4 => ?_⟩
    ·(simp only [decide_eq_true_eq, decide_eq_false_iff_not, Bool.not_eq_true', Bool.not_eq_false'] at h4)
     have hk' : k < want.length := by omega
     have htk2 : ((l.take i).map W).take (k + 1) = ((l.take i).map W).take k ++ [((l.take i).map W).getD k []] := take_snoc [] (by omega)
     rw [Int.toNat_natCast, hnm k hk']
     refine ⟨⟨by omega⟩, ⟨by omega⟩, w, ⟨hw⟩, fun h5 => ⟨⟨by omega⟩, ⟨k + 1, rfl, by omega, ?_⟩, ⟨by ((try dsimp only); omega)⟩⟩, fun h5 => ⟨⟨by omega⟩, ⟨k + 1, rfl, by omega, ?_⟩, ⟨by ((try dsimp only); omega)⟩⟩⟩
     ·(simp only [decide_eq_true_eq, decide_eq_false_iff_not, Bool.not_eq_true', Bool.not_eq_false'] at h5)
      rw [htk2, h5, if_pos (by simp)]
     ·(simp only [decide_eq_true_eq, decide_eq_false_iff_not, Bool.not_eq_true', Bool.not_eq_false'] at h5)
      rw [htk2, hcd]
      have : w ∈ ((l.take i).map W).take k ++ [((l.take i).map W).getD k []] ↔ w ∈ ((l.take i).map W).take k := by
       rw [List.mem_append, List.mem_singleton]
       exact ⟨fun q => q.elim id fun q => absurd q.symm h5, .inl⟩
      by_cases hq : w ∈ ((l.take i).map W).take k
      ·rw [if_pos hq, if_pos (this.2 hq)]
      ·rw [if_neg hq, if_neg (fun r => hq (this.1 r))]
    ·(simp only [decide_eq_true_eq, decide_eq_false_iff_not, Bool.not_eq_true', Bool.not_eq_false'] at h4)
     have hke : k = i := by omega
     rw [hke, List.take_of_length_le (by omega : ((l.take i).map W).length ≤ i)] at hcd
     by_cases hin : w ∈ (l.take i).map W
     ·rw [if_pos hin] at hcd hsc
      subst hcd
      refine ⟨fun q => absurd q (by decide), fun _ => ⟨⟨by omega⟩, w, ⟨hw⟩, ⟨by omega⟩, w, ⟨hw⟩, ⟨by simp only [List.length_cons, List.length_nil]; omega⟩, ⟨by omega⟩, ⟨i + 1, rfl, by omega, hsn, by simp only [List.length_append, List.length_cons, List.length_nil]; omega, .inr ⟨by decide, i, hsc, rfl⟩⟩, ⟨by ((try dsimp only); omega)⟩⟩⟩
     ·rw [if_neg hin] at hcd hsc
      subst hcd
      refine ⟨fun _ => ⟨fun h6 => ?_, fun h6 => ?_⟩, fun q => absurd q (by decide)⟩
      ·(simp only [decide_eq_true_eq, decide_eq_false_iff_not, Bool.not_eq_true', Bool.not_eq_false'] at h6)
       rw [if_pos (by omega)] at hsc
       refine ⟨⟨by omega⟩, w, ⟨hw⟩, ⟨by omega⟩, w, ⟨hw⟩, ⟨by simp only [List.length_cons, List.length_nil]; omega⟩, ⟨by omega⟩, ⟨i + 1, rfl, by omega, hsn, by simp only [List.length_append, List.length_cons, List.length_nil]; omega, .inr ⟨by decide, i, hsc, rfl⟩⟩, ⟨by ((try dsimp only); omega)⟩⟩
      ·(simp only [decide_eq_true_eq, decide_eq_false_iff_not, Bool.not_eq_true', Bool.not_eq_false'] at h6)
       rw [if_neg (by omega)] at hsc
       refine ⟨⟨by omega⟩, w, ⟨hw⟩, ⟨by omega⟩, w, ⟨hw⟩, ⟨by simp only [List.length_cons, List.length_nil]; omega⟩, ⟨by omega⟩, ⟨i + 1, rfl, by omega, hsn, by simp only [List.length_append, List.length_cons, List.length_nil]; omega, .inl ⟨rfl, ?_, hsc, by omega⟩⟩, ⟨by ((try dsimp only); omega)⟩⟩
       rw [htk, List.map_append, q1]; rfl
   ·exact (q h3).elim
 ·(simp only [decide_eq_true_eq, decide_eq_false_iff_not, Bool.not_eq_true', Bool.not_eq_false'] at h2)
  have hie : i = l.length := by omega
  subst hie
  have hWl := hW l.length
  rw [List.take_length] at hs hT hWl
  obtain ⟨A1, A2⟩ := toks_all (l.map W) hWl
  have C := readR (s ++ endT) (by simp only [List.length_append, List.length_cons, List.length_nil]; omega) (by
   intro c hc
   rcases List.mem_append.1 hc with hc | hc
   ·rw [hs] at hc
    obtain ⟨w, hw, hc⟩ := List.mem_flatMap.1 hc
    exact lnT_mem (hWl w hw) c hc
   ·have : ∀ c ∈ endT, 0 ≤ c ∧ c < 256 := by decide
    exact this c hc)
  refine ⟨⟨by omega⟩, ?_⟩
  rcases hT with ⟨q0, q1, q2, q3⟩ | ⟨q0, j, q1, q2⟩
  ·subst q0
   rw [hs, A2 q2, ← q1, ← hs] at C
   ((repeat apply Exists.intro); refine And.intro (Need.mk (C)) ?_)
   refine ⟨fun q => absurd q (by decide), fun _ => ⟨fun _ => ⟨fun _ => ⟨true, ⟨same_ev _ ⟨?_, ?_, ?_, ?_, ?_, ?_⟩⟩, ?_⟩, fun q => absurd q (by decide)⟩, nofun⟩⟩
   ·show want.length ≤ 1000000
    omega
   ·exact Nat.zero_le _
   ·exact Nat.zero_le _
   ·exact (by decide : 1 ≤ 1000000)
   ·nofun
   ·intro x hx
    have hx : x ∈ [(([101] : List Int), (([] : List qT3), (([] : List Int), (([] : List Int), ()))))] := hx
    rw [List.mem_singleton.1 hx]
    exact Nat.zero_le _
   ·exact ⟨rfl, rfl⟩
  ·rw [hs, A1 _ _ q1, ← hs, ← q2] at C
   ((repeat apply Exists.intro); refine And.intro (Need.mk (C)) ?_)
   refine ⟨fun _ => ⟨fun _ => ⟨true, ⟨zero_ev⟩, fun _ => ?_, nofun⟩, nofun⟩, fun q => by (simp only [decide_eq_true_eq, decide_eq_false_iff_not, Bool.not_eq_true', Bool.not_eq_false'] at q); exact (q q0).elim⟩
   rw [decide_eq_true rfl, decide_eq_true rfl]; exact ⟨rfl, rfl⟩
end Go.Am.R
