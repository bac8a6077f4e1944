/-
  A part of the proof of a law: see the text that states it.
-/
import Derived.Test.YtcggbplapaeedaaDoorT
set_option linter.all false
namespace Go.Am.R
open Go Go.Am.Pr Go.Am.R.L
set_option maxRecDepth 100000
abbrev Row := Nat × List Int × Ns
def NmOK (w : List Int) : Prop := nameK w = true ∧ w.length ≤ 32
theorem sep_32 (x : List Int) : Sep (32 :: x) := fun c r e => by cases e; decide
theorem sep_cons {c : Int} (h : partK c = false) (x : List Int) : Sep (c :: x) := fun d r e => by cases e; exact h
def nmT (ns : Ns) : List Int := ns.flatMap fun n => 32 :: n
abbrev nmM (ns : Ns) : List Kt := ns.map fun n => ((1 : Int), n)
theorem lx_space : Lx [32] [] Any := (tk_space (.inl rfl)).lx
theorem lx_nl : Lx [10] [] Any := (tk_space (.inr (.inr (.inl rfl)))).lx
theorem lx_name {w : List Int} (h : NmOK w) : Lx w [(1, w)] Sep := (tk_name h.1 h.2).lx
theorem lx_names : ∀ (ns : Ns), (∀ n ∈ ns, NmOK n) → Lx (nmT ns) (nmM ns) Sep ∧ ∀ x, Sep x → Sep (nmT ns ++ x)
 | [], _ => ⟨Lx.nil.mono fun _ _ => trivial, fun x h => h⟩
 | n :: ns, h => by
  obtain ⟨i1, i2⟩ := lx_names ns fun m hm => h m (List.mem_cons_of_mem _ hm)
  have h1 : Lx (32 :: n) [(1, n)] Sep := lx_space.app (lx_name (h n (List.mem_cons_self ..))) fun _ _ => trivial
  exact ⟨h1.app i1 i2, fun x _ => sep_32 _⟩
def hdT (k : Nat) (L : List Int) : List Int := if k = 0 then 10 :: (L ++ [32, 58]) else if k = 1 then [32, 59, 10] ++ (L ++ [32, 58]) else [32, 124]
def hdM (k : Nat) (L : List Int) : List Kt := if k = 0 then [(1, L), (6, [])] else if k = 1 then [(8, []), (1, L), (6, [])] else [(7, [])]
def rowT (q : Row) : List Int := hdT q.1 q.2.1 ++ nmT q.2.2
def rowM (q : Row) : List Kt := hdM q.1 q.2.1 ++ nmM q.2.2
def rowOK (q : Row) : Prop := NmOK q.2.1 ∧ (∀ n ∈ q.2.2, NmOK n) ∧ q.2.2.length ≤ 8
theorem lx_left {L : List Int} (h : NmOK L) : Lx (L ++ [32, 58]) [(1, L), (6, [])] Any :=
 (lx_name h).app (lx_space.app (tk_sign (c := 58) (by decide)).lx fun _ _ => trivial) fun x _ => sep_32 _
theorem lx_hd (k : Nat) {L : List Int} (h : NmOK L) : Lx (hdT k L) (hdM k L) Any ∧ ∀ x, Sep (hdT k L ++ x) := by
 unfold hdT hdM
 split
 ·exact ⟨lx_nl.app (lx_left h) fun _ _ => trivial, fun x => sep_cons (by decide) _⟩
 ·split
  ·refine ⟨?_, fun x => sep_cons (by decide) _⟩
   exact (lx_space.app ((tk_sign (c := 59) (by decide)).lx.app lx_nl fun _ _ => trivial) fun _ _ => trivial).app (lx_left h) fun _ _ => trivial
  ·exact ⟨lx_space.app (tk_sign (c := 124) (by decide)).lx fun _ _ => trivial, fun x => sep_cons (by decide) _⟩
theorem lx_row {q : Row} (h : rowOK q) : Lx (rowT q) (rowM q) Sep ∧ ∀ x, Sep (rowT q ++ x) := by
 obtain ⟨a1, a2⟩ := lx_hd q.1 h.1
 obtain ⟨b1, b2⟩ := lx_names q.2.2 h.2.1
 exact ⟨a1.app b1 fun _ _ => trivial, fun x => by rw [rowT, List.append_assoc]; exact a2 _⟩
theorem lx_rows : ∀ (l : List Row), (∀ q ∈ l, rowOK q) → Lx (l.flatMap rowT) (l.flatMap rowM) Sep ∧ ∀ x, Sep x → Sep (l.flatMap rowT ++ x)
 | [], _ => ⟨Lx.nil.mono fun _ _ => trivial, fun x h => h⟩
 | q :: l, h => by
  obtain ⟨i1, i2⟩ := lx_rows l fun m hm => h m (List.mem_cons_of_mem _ hm)
  obtain ⟨h1, h2⟩ := lx_row (h q (List.mem_cons_self ..))
  refine ⟨h1.app i1 i2, fun x _ => ?_⟩
  rw [List.flatMap_cons, List.append_assoc]; exact h2 _
theorem rows_len : ∀ l : List Row, l.length ≤ (l.flatMap rowM).length
 | [] => Nat.le_refl _
 | q :: l => by
  have h1 : 1 ≤ (rowM q).length := by
   rw [rowM, List.length_append]
   have : 1 ≤ (hdM q.1 q.2.1).length := by
    unfold hdM
    split
    ·exact Nat.le_add_left 1 1
    ·split
     ·exact Nat.le_add_left 1 2
     ·exact Nat.le_refl 1
   omega
  have := rows_len l
  rw [List.flatMap_cons, List.length_append, List.length_cons]
  omega
def Ch : List Int → List Row → Prop
 | _, [] => True
 | left, (k, L, _) :: l => (k = 1 ∨ k = 2 ∧ L = left) ∧ Ch L l
def wantR (q : Row) : Rl := (q.2.1, (q.2.2, ([], ([], ()))))
abbrev addR (s : G) (l : List Rl) : G := { s with rl := s.rl ++ l }
theorem rows_parse : ∀ (l : List Row) (left : List Int) (ns : Ns) (r : List L.Mark) (s : G) (f F : Nat), Ch left l → (∀ q ∈ l, rowOK q) → ns.length ≤ 8 →
  kts r = nmM ns ++ (l.flatMap rowM ++ [(8, []), (0, [])]) → s.rl.length + 1 + l.length ≤ 40 → l.length < f → l.length < F →
  ∃ r', (match altsK f left r s with
   | (some e, r', s') => (some e, r', s')
   | (none, r', s') => rulesK F r' s') = (none, r', addR s ((left, (ns, ([], ([], ())))) :: l.map wantR))
 | [], left, ns, r, s, f, F, _, _, hn, hk, hl, hf, hF => by
  obtain ⟨f, rfl⟩ : ∃ g, f = g + 1 := ⟨f - 1, by omega⟩
  simp only [List.length_nil] at hl
  obtain ⟨r', g1, g2⟩ := altsK_end (p := []) (a := []) f left s (tl := [(0, [])]) (by rw [hk]; simp [altM, precM, actM]) hn (by omega)
  refine ⟨r', ?_⟩
  rw [g1]
  exact rulesK_stop (by rw [g2]; rfl) (by simp)
 | (k, L, ms) :: l, left, ns, r, s, f, F, hc, ho, hn, hk, hl, hf, hF => by
  obtain ⟨f, rfl⟩ : ∃ g, f = g + 1 := ⟨f - 1, by omega⟩
  obtain ⟨F, rfl⟩ : ∃ g, F = g + 1 := ⟨F - 1, by omega⟩
  simp only [List.length_cons] at hl hf hF
  obtain ⟨hc1, hc2⟩ := hc
  have ho1 := ho _ (List.mem_cons_self ..)
  have ho2 : ∀ q ∈ l, rowOK q := fun q hq => ho q (List.mem_cons_of_mem _ hq)
  rcases hc1 with rfl | ⟨rfl, rfl⟩
  ·obtain ⟨r', g1, g2⟩ := altsK_end (p := []) (a := []) f left s (tl := (1, L) :: (6, []) :: (nmM ms ++ (l.flatMap rowM ++ [(8, []), (0, [])]))) (by rw [hk]; simp [altM, precM, actM, rowM, hdM]) hn (by omega)
   obtain ⟨r2, k1, k2⟩ := ruleK_fwd (addR s [(left, (ns, ([], ([], ()))))]) g2
   have hlen : l.length < r'.length + 1 := by
    have h1 := rows_len l
    rw [kts_len, g2]
    simp only [List.length_cons, List.length_append]
    omega
   obtain ⟨r3, j1⟩ := rows_parse l L ms r2 (addR s [(left, (ns, ([], ([], ()))))]) (r'.length + 1) F hc2 ho2 ho1.2.2 k2 (by simp; omega) hlen (by omega)
   refine ⟨r3, ?_⟩
   rw [g1]
   simp only
   rw [rulesK, if_pos (.inr (by rw [hd1, g2]; exact (by decide : (1 : Int) ≠ 0))), k1]
   refine Eq.trans ?_ (j1.trans ?_)
   ·rcases altsK (r'.length + 1) L r2 (addR s [(left, (ns, ([], ([], ()))))]) with ⟨_ | e, r9, s9⟩ <;> rfl
   ·simp [addR, wantR]
  ·obtain ⟨r', g1, g2⟩ := altsK_bar (p := []) (a := []) f L s (tl := nmM ms ++ (l.flatMap rowM ++ [(8, []), (0, [])])) (by rw [hk]; simp [altM, precM, actM, rowM, hdM]) hn (by omega)
   obtain ⟨r3, j1⟩ := rows_parse l L ms r' (addR s [(L, (ns, ([], ([], ()))))]) f (F + 1) hc2 ho2 ho1.2.2 g2 (by simp; omega) (by omega) (by omega)
   refine ⟨r3, ?_⟩
   rw [g1, j1]
   simp [addR, wantR]
theorem rows_read (L : List Int) (ns : Ns) (l : List Row) (hc : Ch L l) (h0 : rowOK (0, L, ns)) (ho : ∀ q ∈ l, rowOK q) (hl : l.length ≤ 39) {s : List Int} (hs : s = [37, 37] ++ (((0, L, ns) :: l).flatMap rowT ++ [59])) :
  readK s = (([], ([], ([], (L, (((0, L, ns) :: l).map wantR, ()))))), dg0) := by
 have hLx : Lx s ((2, [37]) :: (((0, L, ns) :: l).flatMap rowM ++ [(8, [])])) Any := by
  obtain ⟨a1, a2⟩ := lx_rows ((0, L, ns) :: l) (by
   intro q hq
   rcases List.mem_cons.1 hq with rfl | hq
   ·exact h0
   ·exact ho q hq)
  rw [hs]
  exact tk_two.lx.app (a1.app (tk_sign (c := 59) (by decide)).lx fun x _ => sep_cons (by decide) _) fun _ _ => trivial
 obtain ⟨r, g1, g2⟩ := readK_of (hLx.told trivial)
 rw [g2]
 have g1 : kts r = (2, [37]) :: ((1, L) :: (6, []) :: (nmM ns ++ (l.flatMap rowM ++ [(8, []), (0, [])]))) := by
  show r.map kt = _
  rw [g1]; simp [rowM, hdM]
 obtain ⟨r1, k1, k2⟩ := allK_two G0 g1
 obtain ⟨r2, j1, j2⟩ := ruleK_fwd G0 k2
 have hlen : l.length < r1.length := by
  have h1 := rows_len l
  rw [kts_len, k2]
  simp only [List.length_cons, List.length_append]
  omega
 obtain ⟨r3, q1⟩ := rows_parse l L ns r2 G0 (r1.length + 1) r1.length hc ho h0.2.2 j2 (by simp; omega) (by omega) hlen
 rw [marksK_ok (r' := r3) (s' := addR G0 ((L, (ns, ([], ([], ())))) :: l.map wantR)) ?_]
 ·simp [grOf, wantR]
 ·rw [k1, rulesK, if_pos (.inl rfl), j1]
  refine Eq.trans ?_ q1
  rcases altsK (r1.length + 1) L r2 G0 with ⟨_ | e, r9, s9⟩ <;> rfl
end Go.Am.R
