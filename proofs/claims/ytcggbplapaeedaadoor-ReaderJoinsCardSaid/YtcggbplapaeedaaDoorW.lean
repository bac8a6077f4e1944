/-
  A part of the proof of a law: see the text that states it.
-/
import Derived.Test.YtcggbplapaeedaaDoorU
import Derived.Test.YtcggbplapaeedaaDoorG
import Derived.Test.YtcggbplapaeedaaDoorVcF
set_option linter.all false
namespace Go.Am.R
open Go Go.Am.Pr Go.Am.R.L
set_option maxRecDepth 100000
set_option maxHeartbeats 1000000
theorem tks_kinds {s : List Int} {ms : List Kt} (hs : ∀ c ∈ s, 0 ≤ c ∧ c < 256) (h : tks s.length s = .ok ms) : ∀ m ∈ ms, m.1 ≠ 0 := by
 rw [← strip_lex s.length 0 s] at h
 cases hx : lexS s.length 0 s with
 | error q => rw [hx] at h; cases h
 | ok l =>
  rw [hx] at h
  have h : l.map (fun q => (q.1, q.2.1)) = ms := by cases h; rfl
  have hS := lexS_sorted _ _ _ hs hx
  have key : ∀ (l : List Mk) (k n : Nat), Sorted k n l → ∀ q ∈ l, q.1 ≠ 0 := by
   intro l
   induction l with
   | nil => intro k n _ q hq; cases hq
   | cons a l ih =>
    intro k n hh q hq
    rcases List.mem_cons.1 hq with rfl | hq
    ·have := hh.1; omega
    ·exact ih _ _ hh.2.2.2.2 q hq
  intro m hm
  rw [← h] at hm
  obtain ⟨q, hq, rfl⟩ := List.mem_map.1 hm
  exact key l _ _ hS q hq
theorem readK_two (s : List Int) (hl : s.length ≤ 4000) : (∃ c p, readK s = (gr0, (c, (p, ()))) ∧ c ≠ 0) ∨ ∃ ms r r' g, tks s.length s = .ok ms ∧ kts r = ms ++ [(0, [])] ∧ allK r G0 = (none, r', g) ∧ readK s = (grOf g, dg0) ∧ J g ∧ g.rl ≠ [] := by
 cases hy : lexS s.length 0 s with
 | error q =>
  obtain ⟨c, k⟩ := q
  have hc := lexS_code _ _ _ hy
  refine .inl ⟨c, posK (s.take k), ?_, hc⟩
  unfold readK lexK
  rw [hy]
  simp only [glue]
  rw [if_pos hc]
 | ok l =>
  have hk : lexK s = .ok (l.map (markOf s)) := by unfold lexK; rw [hy]; rfl
  have H := lexK_ok hl hk
  have e := readK_P hy
  have hk2 := allK_ok H (r := l.map (markOf s) ++ [(0, ([], (posK s, ())))]) (s := G0) ⟨List.suffix_rfl, by simp⟩ J0
  rcases hq : allK (l.map (markOf s) ++ [(0, ([], (posK s, ())))]) G0 with ⟨_ | e', r', g⟩
  ·rw [hq] at hk2
   refine .inr ⟨l.map (fun q => (q.1, q.2.1)), _, r', g, ?_, ?_, hq, by rw [e, marksK_ok hq], hk2.2, allK_rl hq⟩
   ·rw [← strip_lex s.length 0 s, hy]; rfl
   ·show List.map kt _ = _
    rw [List.map_append, List.map_map]; rfl
  ·obtain ⟨c, p⟩ := e'
   rw [hq] at hk2
   exact .inl ⟨c, p, by rw [e, marksK, hq], hk2.2⟩
section
variable {Y : List Kt}
abbrev e0 : List Kt := [(0, [])]
theorem rightK_sim : ∀ (P : List Kt) (r r2 : List L.Mark) (ns : Ns) {r1 : List L.Mark} {n1 : Ns}, kts r = P ++ e0 → kts r2 = P ++ Y → rightK r ns = (none, r1, n1) →
  ∃ Q, kts r1 = Q ++ e0 ∧ Q <:+ P ∧ (Q ≠ [] → ∃ r3, rightK r2 ns = (none, r3, n1) ∧ kts r3 = Q ++ Y)
 | [], r, r2, ns, r1, n1, h, g, e => by
  rw [rightK_stop (by rw [hd1, h]; exact (by decide : (0 : Int) ≠ 1))] at e
  cases e
  exact ⟨[], h, List.suffix_rfl, fun q => absurd rfl q⟩
 | m :: P, r, r2, ns, r1, n1, h, g, e => by
  by_cases h1 : m.1 = 1
  ·have a1 : (hd r).1 = 1 := by rw [hd1, h]; exact h1
   have a2 : (hd r2).1 = 1 := by rw [hd1, g]; exact h1
   have b1 : (hd r).2.1 = m.2 := by rw [hd2, h]; rfl
   have b2 : (hd r2).2.1 = m.2 := by rw [hd2, g]; rfl
   by_cases h8 : 8 ≤ ns.length
   ·rw [rightK_full a1 h8] at e; cases e
   ·rw [rightK_go a1 h8, b1] at e
    obtain ⟨Q, q1, q2, q3⟩ := rightK_sim P r.tail r2.tail (ns ++ [m.2]) (by rw [kts_tail, h]; rfl) (by rw [kts_tail, g]; rfl) e
    refine ⟨Q, q1, q2.trans (List.suffix_cons m P), fun hq => ?_⟩
    rw [rightK_go a2 h8, b2]
    exact q3 hq
  ·rw [rightK_stop (by rw [hd1, h]; exact h1)] at e
   cases e
   exact ⟨m :: P, h, List.suffix_rfl, fun _ => ⟨r2, by rw [rightK_stop (by rw [hd1, g]; exact h1)], g⟩⟩
theorem actK_sim {P : List Kt} (hP : P ≠ []) {r r2 : List L.Mark} (h : kts r = P ++ e0) (g : kts r2 = P ++ Y) :
  ∃ Q, kts (actK r).2 = Q ++ e0 ∧ Q <:+ P ∧ kts (actK r2).2 = Q ++ Y ∧ (actK r2).1 = (actK r).1 := by
 cases P with
 | nil => exact absurd rfl hP
 | cons m P =>
  by_cases h9 : m.1 = 9
  ·have a1 : (hd r).1 = 9 := by rw [hd1, h]; exact h9
   have a2 : (hd r2).1 = 9 := by rw [hd1, g]; exact h9
   rw [actK_y a1, actK_y a2]
   exact ⟨P, by rw [kts_tail, h]; rfl, List.suffix_cons m P, by rw [kts_tail, g]; rfl, by rw [hd2, hd2, h, g]; rfl⟩
  ·have a1 : (hd r).1 ≠ 9 := by rw [hd1, h]; exact h9
   have a2 : (hd r2).1 ≠ 9 := by rw [hd1, g]; exact h9
   rw [actK_n a1, actK_n a2]
   exact ⟨m :: P, h, List.suffix_rfl, g, rfl⟩
theorem altK_sim {P : List Kt} {left : List Int} {r r2 r1 : List L.Mark} {s s1 : G} (h : kts r = P ++ e0) (g : kts r2 = P ++ Y) (e : altK left r s = (none, r1, s1)) :
  ∃ Q x, kts r1 = Q ++ e0 ∧ Q <:+ P ∧ s1 = addR s [x] ∧ (Q ≠ [] → ∃ r3, kts r3 = Q ++ Y ∧ ∀ s2 : G, altK left r2 s2 = if 40 ≤ s2.rl.length then (some (3, (hd r2).2.2.1), r2, s2) else (none, r3, addR s2 [x])) := by
 unfold altK at e
 split at e
 ·cases e
 ·rcases hr : rightK r [] with ⟨_ | er, ra, na⟩
  ·rw [hr] at e
   simp only at e
   obtain ⟨Q, q1, q2, q3⟩ := rightK_sim P r r2 [] h g hr
   have none_ : Q = [] → ∃ Q x, kts r1 = Q ++ e0 ∧ Q <:+ P ∧ s1 = addR s [x] ∧ (Q ≠ [] → ∃ r3, kts r3 = Q ++ Y ∧ ∀ s2 : G, altK left r2 s2 = if 40 ≤ s2.rl.length then (some (3, (hd r2).2.2.1), r2, s2) else (none, r3, addR s2 [x])) := by
    intro hq
    subst hq
    have h0 : (hd ra).1 = 0 := by rw [hd1, q1]; rfl
    rw [altF, if_neg (fun q => by rw [h0] at q; exact absurd q.1 (by decide)), altE, actK_n (by rw [h0]; decide)] at e
    cases e
    exact ⟨[], _, q1, List.nil_suffix, rfl, fun q => absurd rfl q⟩
   by_cases hQ : Q = []
   ·exact none_ hQ
   obtain ⟨rb, k1, k2⟩ := q3 hQ
   obtain ⟨m, Q', rfl⟩ : ∃ m Q', Q = m :: Q' := by
    cases Q with
    | nil => exact absurd rfl hQ
    | cons m Q' => exact ⟨m, Q', rfl⟩
   have ha : kt (hd ra) = m := by rw [kt_hd, q1]; rfl
   have hb : kt (hd rb) = m := by rw [kt_hd, k2]; rfl
   have ha1 : (hd ra).1 = m.1 := congrArg Prod.fst ha
   have ha2 : (hd ra).2.1 = m.2 := congrArg Prod.snd ha
   have hb1 : (hd rb).1 = m.1 := congrArg Prod.fst hb
   have hb2 : (hd rb).2.1 = m.2 := congrArg Prod.snd hb
   have tot : ∀ (s2 : G), altK left r2 s2 = if 40 ≤ s2.rl.length then (some (3, (hd r2).2.2.1), r2, s2) else altF left na rb s2 := fun s2 => by
    rw [altK, k1]
   by_cases hp : m.1 = 2 ∧ m.2 = precT
   ·rw [altF, if_pos (by rw [ha1, ha2]; exact hp)] at e
    split at e
    ·rename_i ht
     have hta : kts ra.tail = Q' ++ e0 := by rw [kts_tail, q1]; rfl
     have htb : kts rb.tail = Q' ++ Y := by rw [kts_tail, k2]; rfl
     cases Q' with
     | nil => rw [hd1, hta] at ht; exact absurd ht (by decide)
     | cons p Q' =>
      have hp2 : (hd ra.tail).2.1 = p.2 := by rw [hd2, hta]; rfl
      have hp1 : p.1 = 1 := by rw [hd1, hta] at ht; exact ht
      have hpb : (hd rb.tail).1 = 1 := by rw [hd1, htb]; exact hp1
      have hpb2 : (hd rb.tail).2.1 = p.2 := by rw [hd2, htb]; rfl
      have htta : kts ra.tail.tail = Q' ++ e0 := by rw [kts_tail, hta]; rfl
      have httb : kts rb.tail.tail = Q' ++ Y := by rw [kts_tail, htb]; rfl
      unfold altE at e
      cases e
      by_cases hQ' : Q' = []
      ·subst hQ'
       rw [actK_n (by rw [hd1, htta]; exact (by decide : (0 : Int) ≠ 9))]
       exact ⟨[], _, htta, List.nil_suffix, rfl, fun q => absurd rfl q⟩
      ·obtain ⟨Q2, j1, j2, j3, j4⟩ := actK_sim hQ' htta httb
       refine ⟨Q2, _, j1, (j2.trans ((List.suffix_cons p Q').trans (List.suffix_cons m _))).trans q2, rfl, fun _ => ⟨_, j3, fun s2 => ?_⟩⟩
       have key : altF left na rb s2 = (none, (actK rb.tail.tail).2, addR s2 [(left, (na, (p.2, ((actK ra.tail.tail).1, ()))))]) := by rw [altF, if_pos (by rw [hb1, hb2]; exact hp), if_pos hpb, altE, j4, hpb2]
       rw [tot, key, hp2]
    ·cases e
   ·rw [altF, if_neg (by rw [ha1, ha2]; exact hp), altE] at e
    cases e
    obtain ⟨Q2, j1, j2, j3, j4⟩ := actK_sim hQ q1 k2
    refine ⟨Q2, _, j1, j2.trans q2, rfl, fun _ => ⟨_, j3, fun s2 => ?_⟩⟩
    have key : altF left na rb s2 = (none, (actK rb).2, addR s2 [(left, (na, ([], ((actK ra).1, ()))))]) := by rw [altF, if_neg (by rw [hb1, hb2]; exact hp), altE, j4]
    rw [tot, key]
  ·rw [hr] at e; cases e
theorem altsK_sim : ∀ (f : Nat) (P : List Kt) (left : List Int) (r r2 : List L.Mark) (s : G) {r1 : List L.Mark} {s1 : G}, kts r = P ++ e0 → kts r2 = P ++ Y → r.length < f → altsK f left r s = (none, r1, s1) →
  ∃ Q l, kts r1 = Q ++ e0 ∧ Q <:+ P ∧ s1 = addR s l ∧ l ≠ [] ∧ ∃ r3, kts r3 = Q ++ Y ∧ ∀ (s2 : G) (f2 : Nat), r2.length < f2 →
   (s2.rl.length + l.length ≤ 40 → altsK f2 left r2 s2 = (none, r3, addR s2 l)) ∧ (40 < s2.rl.length + l.length → ∃ p ra sa, altsK f2 left r2 s2 = (some (3, p), ra, sa))
 | 0, _, _, _, _, _, _, _, _, _, h, _ => absurd h (Nat.not_lt_zero _)
 | f + 1, P, left, r, r2, s, r1, s1, h, g, hf, e => by
  rw [altsK] at e
  rcases ha : altK left r s with ⟨_ | er, ra, sa⟩
  ·rw [ha] at e
   simp only at e
   obtain ⟨Q, x, q1, q2, q3, q4⟩ := altK_sim h g ha
   have hQ : Q ≠ [] := by
    rintro rfl
    have h0 : (hd ra).1 = 0 := by rw [hd1, q1]; rfl
    rw [if_neg (by rw [h0]; decide), if_neg (by rw [h0]; decide)] at e
    cases e
   obtain ⟨rb, k1, k2⟩ := q4 hQ
   obtain ⟨m, Q', rfl⟩ : ∃ m Q', Q = m :: Q' := by
    cases Q with
    | nil => exact absurd rfl hQ
    | cons m Q' => exact ⟨m, Q', rfl⟩
   have hma : (hd ra).1 = m.1 := by rw [hd1, q1]; rfl
   have hmb : (hd rb).1 = m.1 := by rw [hd1, k1]; rfl
   have hta : kts ra.tail = Q' ++ e0 := by rw [kts_tail, q1]; rfl
   have htb : kts rb.tail = Q' ++ Y := by rw [kts_tail, k1]; rfl
   have hsQ : Q' <:+ P := (List.suffix_cons m Q').trans q2
   by_cases h7 : m.1 = 7
   ·rw [if_pos (by rw [hma]; exact h7)] at e
    have hlen : ra.tail.length < f := by
     have h1 := q2.length_le
     have h2 := kts_len r
     have h3 := kts_len ra.tail
     rw [h] at h2; rw [hta] at h3
     simp only [List.length_append, List.length_cons] at h1 h2 h3
     omega
    obtain ⟨Q2, l, j1, j2, j3, j4, r3, j5, j6⟩ := altsK_sim f Q' left ra.tail rb.tail sa hta htb hlen e
    refine ⟨Q2, x :: l, j1, j2.trans hsQ, by rw [j3, q3]; simp [addR], nofun, r3, j5, fun s2 f2 hf2 => ?_⟩
    obtain ⟨f2, rfl⟩ : ∃ k, f2 = k + 1 := ⟨f2 - 1, by omega⟩
    have hlb : rb.tail.length < f2 := by
     have h1 := q2.length_le
     have h2 := kts_len r2
     have h3 := kts_len rb.tail
     rw [g] at h2; rw [htb] at h3
     simp only [List.length_append, List.length_cons] at h1 h2 h3
     omega
    rw [altsK, k2]
    by_cases h40 : 40 ≤ s2.rl.length
    ·rw [if_pos h40]
     exact ⟨fun q => by simp only [List.length_cons] at q; omega, fun _ => ⟨_, _, _, rfl⟩⟩
    ·rw [if_neg h40]
     simp only
     rw [if_pos (by rw [hmb]; exact h7)]
     obtain ⟨i1, i2⟩ := j6 (addR s2 [x]) f2 hlb
     have e1 : (addR s2 [x]).rl.length + l.length = s2.rl.length + (x :: l).length := by simp; omega
     rw [e1] at i1 i2
     refine ⟨fun q => ?_, i2⟩
     rw [i1 q]; simp [addR]
   ·rw [if_neg (by rw [hma]; exact h7)] at e
    by_cases h8 : m.1 = 8
    ·rw [if_pos (by rw [hma]; exact h8)] at e
     cases e
     refine ⟨Q', [x], hta, hsQ, q3, nofun, rb.tail, htb, fun s2 f2 hf2 => ?_⟩
     obtain ⟨f2, rfl⟩ : ∃ k, f2 = k + 1 := ⟨f2 - 1, by omega⟩
     rw [altsK, k2]
     by_cases h40 : 40 ≤ s2.rl.length
     ·rw [if_pos h40]
      exact ⟨fun q => by simp only [List.length_cons, List.length_nil] at q; omega, fun _ => ⟨_, _, _, rfl⟩⟩
     ·rw [if_neg h40]
      simp only
      rw [if_neg (by rw [hmb]; exact h7), if_pos (by rw [hmb]; exact h8)]
      exact ⟨fun _ => rfl, fun q => by simp only [List.length_cons, List.length_nil] at q; omega⟩
    ·rw [if_neg (by rw [hma]; exact h8)] at e
     cases e
  ·rw [ha] at e; cases e
theorem ruleK_sim {P : List Kt} {r r2 r1 : List L.Mark} {s s1 : G} (h : kts r = P ++ e0) (g : kts r2 = P ++ Y) (e : ruleK r s = (none, r1, s1)) :
  ∃ Q l, (hdk P).1 = 1 ∧ kts r1 = Q ++ e0 ∧ Q <:+ P ∧ Q.length < P.length ∧ s1 = addR s l ∧ l ≠ [] ∧ ∃ r3, kts r3 = Q ++ Y ∧ ∀ (s2 : G),
   (s2.rl.length + l.length ≤ 40 → ruleK r2 s2 = (none, r3, addR s2 l)) ∧ (40 < s2.rl.length + l.length → ∃ p ra sa, ruleK r2 s2 = (some (3, p), ra, sa)) := by
 unfold ruleK at e
 split at e
 ·rename_i h1
  split at e
  ·rename_i h2
   rw [hd1, h] at h1
   rw [hd1, kts_tail, h] at h2
   cases P with
   | nil => exact absurd h1 (by decide)
   | cons m P =>
    cases P with
    | nil => exact absurd h2 (by decide : ¬ (0 : Int) = 6)
    | cons p P =>
     have h1 : m.1 = 1 := h1
     have h2 : p.1 = 6 := h2
     have hta : kts r.tail.tail = P ++ e0 := by rw [kts_tail, kts_tail, h]; rfl
     have htb : kts r2.tail.tail = P ++ Y := by rw [kts_tail, kts_tail, g]; rfl
     have hl : (hd r).2.1 = m.2 := by rw [hd2, h]; rfl
     have hl2 : (hd r2).2.1 = m.2 := by rw [hd2, g]; rfl
     obtain ⟨Q, l, j1, j2, j3, j4, r3, j5, j6⟩ := altsK_sim _ P _ r.tail.tail r2.tail.tail s hta htb (by simp only [List.length_tail]; omega) e
     refine ⟨Q, l, h1, j1, j2.trans ((List.suffix_cons p P).trans (List.suffix_cons m _)), by have := j2.length_le; simp only [List.length_cons]; omega, j3, j4, r3, j5, fun s2 => ?_⟩
     rw [ruleK, if_pos (by rw [hd1, g]; exact h1), if_pos (by rw [hd1, kts_tail, g]; exact h2), hl2, ← hl]
     exact j6 s2 _ (by simp only [List.length_tail]; omega)
  ·cases e
 ·cases e
end
theorem rulesK_sim {Y : List Kt} : ∀ (f : Nat) (P : List Kt) (r r2 : List L.Mark) (s : G) {r1 : List L.Mark} {s1 : G}, (∀ m ∈ P, m.1 ≠ 0) → kts r = P ++ e0 → kts r2 = P ++ Y → r.length < f → rulesK f r s = (none, r1, s1) →
  ∃ l, s1 = addR s l ∧ ∃ r3, kts r3 = Y ∧ ∀ (s2 : G) (f2 : Nat), r2.length < f2 → (s.rl = [] ∨ s2.rl ≠ []) →
   (s2.rl.length + l.length ≤ 40 → ∃ k, r3.length < k ∧ rulesK f2 r2 s2 = rulesK k r3 (addR s2 l)) ∧ (40 < s2.rl.length + l.length → s2.rl.length ≤ 40 → ∃ p ra sa, rulesK f2 r2 s2 = (some (3, p), ra, sa))
 | 0, _, _, _, _, _, _, _, _, _, h, _ => absurd h (Nat.not_lt_zero _)
 | f + 1, P, r, r2, s, r1, s1, hk, h, g, hf, e => by
  rw [rulesK] at e
  split at e
  ·rename_i hc
   rcases ha : ruleK r s with ⟨_ | er, ra, sa⟩
   ·rw [ha] at e
    simp only at e
    obtain ⟨Q, l, q0, q1, q2, q3, q4, q5, rb, k1, k2⟩ := ruleK_sim (Y := Y) h g ha
    have hla : ra.length < f := by
     have h2 := kts_len r
     have h3 := kts_len ra
     rw [h] at h2; rw [q1] at h3
     simp only [List.length_append, List.length_cons] at h2 h3
     omega
    obtain ⟨l2, j1, r3, j2, j3⟩ := rulesK_sim f Q ra rb sa (fun m hm => hk m (q2.subset hm)) q1 k1 hla e
    refine ⟨l ++ l2, by rw [j1, q4]; simp [addR], r3, j2, fun s2 f2 hf2 hor => ?_⟩
    obtain ⟨f2, rfl⟩ : ∃ k, f2 = k + 1 := ⟨f2 - 1, by omega⟩
    have h1r2 : (hd r2).1 ≠ 0 := by
     cases P with
     | nil => simp at q3
     | cons m P => rw [hd1, g]; exact hk m (List.mem_cons_self ..)
    have hlb : rb.length < f2 := by
     have h2 := kts_len r2
     have h3 := kts_len rb
     rw [g] at h2; rw [k1] at h3
     simp only [List.length_append] at h2 h3
     omega
    rw [rulesK, if_pos (.inr h1r2)]
    obtain ⟨i1, i2⟩ := k2 s2
    by_cases h40 : s2.rl.length + l.length ≤ 40
    ·rw [i1 h40]
     simp only
     obtain ⟨c1, c2⟩ := j3 (addR s2 l) f2 hlb (.inr (by
      intro q
      have := List.append_eq_nil_iff.1 q
      exact q5 this.2))
     have e1 : (addR s2 l).rl.length + l2.length = s2.rl.length + (l ++ l2).length := by simp; omega
     rw [e1] at c1 c2
     have e2 : (addR s2 l).rl.length ≤ 40 := by simp; omega
     refine ⟨fun q => ?_, fun q _ => c2 q e2⟩
     obtain ⟨k, d1, d2⟩ := c1 q
     exact ⟨k, d1, by rw [d2]; simp [addR]⟩
    ·obtain ⟨p, ra', sa', i3⟩ := i2 (by omega)
     rw [i3]
     exact ⟨fun q => by rw [List.length_append] at q; omega, fun _ _ => ⟨_, _, _, rfl⟩⟩
   ·rw [ha] at e; cases e
  ·rename_i hc
   cases e
   have hP : P = [] := by
    cases P with
    | nil => rfl
    | cons m P =>
     refine absurd (.inr ?_) hc
     rw [hd1, h]; exact hk m (List.mem_cons_self ..)
   subst hP
   refine ⟨[], by simp [addR], r2, g, fun s2 f2 hf2 _ => ⟨fun _ => ⟨f2, hf2, by simp [addR]⟩, fun q q2 => ?_⟩⟩
   simp only [List.length_nil] at q
   omega
theorem tks_two (f : Nat) (x : List Int) : tks (f + 1) (37 :: 37 :: x) = pre [(2, [37])] (tks f x) := by
 have h := tk_two.2 x trivial
 have h : tokK (37 :: 37 :: x) = .ok (2, [37], 2, true) := h
 rw [tks_cons, h]
 simp only [List.drop_succ_cons, List.drop_zero]
 cases tks f x with
 | error e => rfl
 | ok l => rfl
theorem two_read {a : List Int} (hl : a.length ≤ 300) (ha : ∀ c ∈ a, 0 ≤ c ∧ c < 256) : (∃ c p, readK ([37, 37] ++ a) = (gr0, (c, (p, ()))) ∧ c ≠ 0) ∨
  ∃ P r r1 g, tks a.length a = .ok P ∧ (∀ m ∈ P, m.1 ≠ 0) ∧ kts r = P ++ e0 ∧ rulesK (r.length + 1) r G0 = (none, r1, g) ∧ readK ([37, 37] ++ a) = (grOf g, dg0) ∧ J g ∧ g.rl ≠ [] := by
 rcases readK_two ([37, 37] ++ a) (by simp only [List.length_append, List.length_cons, List.length_nil]; omega) with h | ⟨ms, r, r', g, h1, h2, h3, h4, h5, h6⟩
 ·exact .inl h
 ·refine .inr ?_
  have e : ([37, 37] ++ a).length = (a.length + 1) + 1 := by simp
  rw [e] at h1
  have h1 : tks ((a.length + 1) + 1) (37 :: 37 :: a) = .ok ms := h1
  rw [tks_two, tks_fuel (a.length + 1) a.length a ha (by omega) (Nat.le_refl _)] at h1
  cases hx : tks a.length a with
  | error e => rw [hx] at h1; cases h1
  | ok P =>
   rw [hx] at h1
   have h1 : (2, [37]) :: P = ms := by cases h1; rfl
   subst h1
   obtain ⟨r1, k1, k2⟩ := allK_two G0 (l := r) (tl := P ++ e0) (by rw [h2]; rfl)
   rw [h3] at k1
   exact ⟨P, r1, r', g, rfl, tks_kinds ha hx, k2, k1.symm, h4, h5, h6⟩
theorem rightK_bd : ∀ (r : List L.Mark) (ns : Ns) {r1 : List L.Mark} {n1 : Ns}, ns.length ≤ 8 → rightK r ns = (none, r1, n1) → n1.length ≤ 8
 | [], ns, r1, n1, h, e => by rw [rightK] at e; cases e; exact h
 | m :: r, ns, r1, n1, h, e => by
  rw [rightK] at e
  split at e
  ·cases e; exact h
  ·split at e
   ·cases e
   ·exact rightK_bd r _ (by simp; omega) e
def J8 (s : G) : Prop := ∀ x ∈ s.rl, x.2.1.length ≤ 8
def Ok8 : Out → Prop
 | (some _, _, _) => True
 | (none, _, s) => J8 s
theorem altK_8 (left : List Int) (r : List L.Mark) {s : G} (j : J8 s) : Ok8 (altK left r s) := by
 unfold altK
 split
 ·trivial
 ·rcases hr : rightK r [] with ⟨_ | er, ra, na⟩
  ·have hb := rightK_bd r [] (Nat.zero_le _) hr
   have key : ∀ pc r', Ok8 (altE left na pc r' s) := fun pc r' x hx => by
    rcases List.mem_append.1 hx with hx | hx
    ·exact j x hx
    ·rw [List.mem_singleton.1 hx]; exact hb
   simp only
   unfold altF
   split
   ·split
    ·exact key _ _
    ·trivial
   ·exact key _ _
  ·trivial
theorem altsK_8 : ∀ (f : Nat) (left : List Int) (r : List L.Mark) {s : G}, J8 s → Ok8 (altsK f left r s)
 | 0, _, _, _, j => j
 | f + 1, left, r, s, j => by
  have h := altK_8 left r j
  rw [altsK]
  rcases ha : altK left r s with ⟨_ | er, ra, sa⟩
  ·rw [ha] at h
   simp only
   split
   ·exact altsK_8 f left _ h
   ·split
    ·exact h
    ·trivial
  ·trivial
theorem ruleK_8 (r : List L.Mark) {s : G} (j : J8 s) : Ok8 (ruleK r s) := by
 unfold ruleK
 split
 ·split
  ·exact altsK_8 _ _ _ j
  ·trivial
 ·trivial
theorem rulesK_8 : ∀ (f : Nat) (r : List L.Mark) {s : G}, J8 s → Ok8 (rulesK f r s)
 | 0, _, _, j => j
 | f + 1, r, s, j => by
  have h := ruleK_8 r j
  rw [rulesK]
  split
  ·rcases ha : ruleK r s with ⟨_ | er, ra, sa⟩
   ·rw [ha] at h; exact rulesK_8 f _ h
   ·trivial
  ·exact j
theorem joins (a b : List Int) (ha : ∀ c ∈ a, 0 ≤ c ∧ c < 256) (hb : ∀ c ∈ b, 0 ≤ c ∧ c < 256) : E 6 [.tv [] .str a, .tv [] .str b] [] (bv true) [] := by
 refine ev_of (vc6 a b _ ⟨true, ⟨awake_ev⟩, fun _ => ⟨rfl, rfl⟩, fun h1 => ⟨fun _ => ⟨rfl, rfl⟩, fun h2 => ?_⟩⟩)
 (simp only [decide_eq_true_eq, decide_eq_false_iff_not, Bool.not_eq_true', Bool.not_eq_false'] at h1 h2)
 have hbig : (1000000 : Nat) ≤ bigN := by decide
 have hla : a.length ≤ 300 := by omega
 have hlb : b.length ≤ 300 := by omega
 have hB : ∀ {x : List Int}, (∀ c ∈ x, 0 ≤ c ∧ c < 256) → ∀ c ∈ [37, 37] ++ x, 0 ≤ c ∧ c < 256 := fun hx c hc => by
  simp only [List.mem_append, List.mem_cons, List.not_mem_nil, or_false] at hc
  rcases hc with (rfl | rfl) | hc
  ·decide
  ·decide
  ·exact hx c hc
 have CA := readR ([37, 37] ++ a) (by simp only [List.length_append, List.length_cons, List.length_nil]; omega) (hB ha)
 have CB := readR ([37, 37] ++ b) (by simp only [List.length_append, List.length_cons, List.length_nil]; omega) (hB hb)
 have hJb : ∀ c ∈ a ++ 10 :: b, 0 ≤ c ∧ c < 256 := fun c hc => by
  simp only [List.mem_append, List.mem_cons] at hc
  rcases hc with hc | rfl | hc
  ·exact ha c hc
  ·decide
  ·exact hb c hc
 have CZ := readR ([37, 37] ++ (a ++ 10 :: b)) (by simp only [List.length_append, List.length_cons, List.length_nil]; omega) (hB hJb)
 have eZ : (([(37 : Int), (37 : Int)] ++ a) ++ [(10 : Int)]) ++ b = [37, 37] ++ (a ++ 10 :: b) := by simp
 rw [eZ]
 refine ⟨⟨by omega⟩, ?_⟩
 rcases two_read hla ha with ⟨c, p, k1, k2⟩ | ⟨P, r, r1, g, tP, kP, hr, hR, hra, jg, hg⟩
 ·rw [k1] at CA
  ((repeat apply Exists.intro); refine And.intro (Need.mk (CA)) ?_)
  refine ⟨⟨by omega⟩, ?_⟩
  ((repeat apply Exists.intro); refine And.intro (Need.mk (CB)) ?_)
  exact ⟨fun _ => ⟨rfl, rfl⟩, fun q => by (simp only [decide_eq_true_eq, decide_eq_false_iff_not, Bool.not_eq_true', Bool.not_eq_false'] at q); exact (q k2).elim⟩
 rcases two_read hlb hb with ⟨c, p, k1, k2⟩ | ⟨Pb, rb, rb1, gb, tPb, kPb, hrb, hRb, hrab, jgb, hgb⟩
 ·rw [hra] at CA
  rw [k1] at CB
  ((repeat apply Exists.intro); refine And.intro (Need.mk (CA)) ?_)
  refine ⟨⟨by omega⟩, ?_⟩
  ((repeat apply Exists.intro); refine And.intro (Need.mk (CB)) ?_)
  exact ⟨fun _ => ⟨rfl, rfl⟩, fun _ => ⟨fun _ => ⟨rfl, rfl⟩, fun q => by (simp only [decide_eq_true_eq, decide_eq_false_iff_not, Bool.not_eq_true', Bool.not_eq_false'] at q); exact (q k2).elim⟩⟩
 have tZ : tks ([37, 37] ++ (a ++ 10 :: b)).length ([37, 37] ++ (a ++ 10 :: b)) = .ok ((2, [37]) :: (P ++ Pb)) := by
  have e : ([37, 37] ++ (a ++ 10 :: b)).length = (a.length + b.length + 2) + 1 := by simp; omega
  rw [e]
  show tks _ (37 :: 37 :: (a ++ 10 :: b)) = _
  rw [tks_two]
  obtain ⟨m1, _⟩ := tks_more b hb a.length (a.length + b.length + 2) a ha (Nat.le_refl _) (by omega)
  rw [m1 P tP, tPb]; rfl
 obtain ⟨rz, z1, z2⟩ := readK_of tZ
 obtain ⟨rz1, z3, z4⟩ := allK_two G0 (l := rz) (tl := P ++ (Pb ++ e0)) (by show List.map kt rz = _; rw [z1]; simp [e0])
 obtain ⟨la, s1, r3, s2, s3⟩ := rulesK_sim _ P r rz1 G0 kP hr z4 (by omega) hR
 obtain ⟨lb, t1, r4, t2, t3⟩ := rulesK_sim (Y := e0) _ Pb rb r3 G0 kPb hrb (by rw [s2]) (by omega) hRb
 have hna : la ≠ [] := by rintro rfl; rw [s1] at hg; exact hg rfl
 have hnb : lb ≠ [] := by rintro rfl; rw [t1] at hgb; exact hgb rfl
 have n1 : la.length ≤ 40 := by have := jg.rlN; rw [s1] at this; simpa using this
 have n2 : lb.length ≤ 40 := by have := jgb.rlN; rw [t1] at this; simpa using this
 obtain ⟨k, d1, d2⟩ := (s3 G0 (rz1.length + 1) (by omega) (.inl rfl)).1 (by simpa using n1)
 have hga : readK ([37, 37] ++ a) = (([], ([], ([], ((la.getD 0 ([], ([], ([], ([], ()))))).1, (la, ()))))), dg0) := by rw [hra, s1]; rfl
 have hgb : readK ([37, 37] ++ b) = (([], ([], ([], ((lb.getD 0 ([], ([], ([], ([], ()))))).1, (lb, ()))))), dg0) := by rw [hrab, t1]; rfl
 rw [hga] at CA
 rw [hgb] at CB
 ((repeat apply Exists.intro); refine And.intro (Need.mk (CA)) ?_)
 refine ⟨⟨by omega⟩, ?_⟩
 ((repeat apply Exists.intro); refine And.intro (Need.mk (CB)) ?_)
 refine ⟨fun q => by (simp only [decide_eq_true_eq, decide_eq_false_iff_not, Bool.not_eq_true', Bool.not_eq_false'] at q); exact (q rfl).elim, fun _ => ⟨fun q => by (simp only [decide_eq_true_eq, decide_eq_false_iff_not, Bool.not_eq_true', Bool.not_eq_false'] at q); exact (q rfl).elim, fun _ => ⟨⟨by omega⟩, ⟨by simp only [List.length_append, List.length_cons, List.length_nil]; omega⟩, ⟨by simp only [List.length_append, List.length_cons, List.length_nil]; omega⟩, ?_⟩⟩⟩
 obtain ⟨u1, u2⟩ := t3 (addR G0 la) k d1 (.inl rfl)
 have eL : (addR G0 la).rl.length = la.length := by simp
 rw [eL] at u1 u2
 by_cases h40 : la.length + lb.length ≤ 40
 ·obtain ⟨k2, v1, v2⟩ := u1 h40
  have hst : rulesK k2 r4 (addR (addR G0 la) lb) = (none, r4, addR (addR G0 la) lb) := rulesK_stop (by rw [t2]; rfl) (by simp [hna])
  have hz : readK ([37, 37] ++ (a ++ 10 :: b)) = (([], ([], ([], ((la.getD 0 ([], ([], ([], ([], ()))))).1, ([] ++ la ++ lb, ()))))), dg0) := by
   rw [z2, marksK_ok (r' := r4) (s' := addR (addR G0 la) lb) (by rw [z3, d2, v2, hst])]
   have : ([] ++ la ++ lb).getD 0 ([], ([], ([], ([], ())))) = la.getD 0 (([], ([], ([], ([], ())))) : Rl) := by
    cases la with
    | nil => exact absurd rfl hna
    | cons x l => rfl
   show (grOf (addR (addR G0 la) lb), dg0) = _
   rw [← this]; rfl
  rw [hz] at CZ
  ((repeat apply Exists.intro); refine And.intro (Need.mk (CZ)) ?_)
  refine ⟨⟨by omega⟩, fun q => by (simp only [decide_eq_true_eq, decide_eq_false_iff_not, Bool.not_eq_true', Bool.not_eq_false'] at q); omega, fun _ => ⟨fun _ => ⟨fun _ => ⟨⟨by omega⟩, ⟨by simp only [List.length_append, List.length_nil]; omega⟩, true, ⟨same_ev _ ⟨?_, ?_, ?_, ?_, ?_, ?_⟩⟩, ?_⟩, fun q => absurd q (by decide)⟩, nofun⟩⟩
  ·exact Nat.zero_le _
  ·exact Nat.zero_le _
  ·exact Nat.zero_le _
  ·show ([] ++ la ++ lb).length ≤ 1000000
   simp only [List.length_append, List.length_nil]; omega
  ·nofun
  ·have q1 := rulesK_8 (r.length + 1) r (s := G0) nofun
   have q2 := rulesK_8 (rb.length + 1) rb (s := G0) nofun
   rw [hR] at q1
   rw [hRb] at q2
   intro x hx
   have hx : x ∈ [] ++ la ++ lb := hx
   simp only [List.nil_append, List.mem_append] at hx
   rcases hx with hx | hx
   ·have := q1 x (by rw [s1]; simpa using hx)
    omega
   ·have := q2 x (by rw [t1]; simpa using hx)
    omega
  ·exact ⟨rfl, rfl⟩
 ·obtain ⟨p, ra', sa', v⟩ := u2 (by omega) (by omega)
  have hz : readK ([37, 37] ++ (a ++ 10 :: b)) = (gr0, (3, (p, ()))) := by
   rw [z2, marksK, z3, d2, v]
  rw [hz] at CZ
  ((repeat apply Exists.intro); refine And.intro (Need.mk (CZ)) ?_)
  refine ⟨⟨by omega⟩, fun _ => ⟨fun _ => ⟨fun _ => ⟨true, ⟨zero_ev⟩, ?_⟩, fun q => absurd q (by decide)⟩, nofun⟩, fun q => by (simp only [decide_eq_true_eq, decide_eq_false_iff_not, Bool.not_eq_true', Bool.not_eq_false'] at q); omega⟩
  exact ⟨rfl, rfl⟩
end Go.Am.R
