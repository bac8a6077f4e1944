/-
  A part of the proof of a law: see the text that states it.
-/
import Derived.Test.YtcggbplapaeedaaDoorZC
import Derived.Test.YtcggbplapaeedaaDoorVcJ
set_option linter.all false
namespace Go.Am.R
open Go Go.Am.Pr Go.Am.R.L
set_option maxRecDepth 100000
theorem joinL_one (sep x : List Int) : joinL sep [x] = x := by simp [joinL, List.intercalate]
theorem joinL_cons (sep x y : List Int) (l : List qT6) : joinL sep (x :: y :: l) = x ++ sep ++ joinL sep (y :: l) := by
 simp [joinL, List.intercalate]
theorem joinL_le (B : Nat) : ∀ l : List qT6, (∀ x ∈ l, x.length ≤ B) → (joinL [32] l).length ≤ l.length * (B + 1)
 | [], _ => Nat.zero_le _
 | [x], h => by
  have := h x (List.mem_cons_self ..)
  rw [joinL_one, List.length_singleton]; omega
 | x :: y :: l, h => by
  have h1 := h x (List.mem_cons_self ..)
  have h2 := joinL_le B (y :: l) (fun a ha => h a (List.mem_cons_of_mem _ ha))
  rw [joinL_cons, List.length_append, List.length_append, List.length_singleton]
  have e : (x :: y :: l).length * (B + 1) = (y :: l).length * (B + 1) + (B + 1) := by rw [List.length_cons, Nat.add_mul, Nat.one_mul]
  rw [e]; omega
theorem flat_le {α : Type} (f : α → List Int) (B : Nat) : ∀ l : List α, (∀ x ∈ l, (f x).length ≤ B) → (l.flatMap f).length ≤ l.length * B
 | [], _ => Nat.zero_le _
 | x :: l, h => by
  have h1 := h x (List.mem_cons_self ..)
  have h2 := flat_le f B l (fun a ha => h a (List.mem_cons_of_mem _ ha))
  rw [List.flatMap_cons, List.length_append, List.length_cons, Nat.add_mul, Nat.one_mul]; omega
theorem flat_take_le {α : Type} (f : α → List Int) (B : Nat) (l : List α) (k : Nat) (h : ∀ x ∈ l, (f x).length ≤ B) : ((l.take k).flatMap f).length ≤ l.length * B := by
 refine Nat.le_trans (flat_le f B _ fun x hx => h x (List.mem_of_mem_take hx)) (Nat.mul_le_mul_right B ?_)
 rw [List.length_take]; omega
theorem flat_snoc {α : Type} (f : α → List Int) (d : α) {l : List α} {k : Nat} (hk : k < l.length) : (l.take (k + 1)).flatMap f = (l.take k).flatMap f ++ f (l.getD k d) := by
 rw [take_snoc d hk, List.flatMap_append]; simp
def precW : List Int := [37, 112, 114, 101, 99]
def partsT (r : Rl) : List qT6 := (([r.1, [58]] ++ r.2.1) ++ (if r.2.2.1 = [] then [] else [precW, r.2.2.1])) ++ ((if r.2.2.2.1 = [] then [] else [[123] ++ r.2.2.2.1 ++ [125]]) ++ [[59]])
def ruleT (r : Rl) : List Int := joinL [32] (partsT r)
theorem parts_le (r : Rl) : (partsT r).length ≤ r.2.1.length + 6 := by
 unfold partsT
 simp only [List.length_append, List.length_cons, List.length_nil]
 split <;> split <;> simp only [List.length_cons, List.length_nil] <;> omega
theorem parts_mem (r : Rl) (B : Nat) (hB : 5 ≤ B) (h1 : r.1.length ≤ B) (h2 : ∀ x ∈ r.2.1, x.length ≤ B) (h3 : r.2.2.1.length ≤ B) (h4 : r.2.2.2.1.length + 2 ≤ B) : ∀ x ∈ partsT r, x.length ≤ B := by
 intro x hx
 unfold partsT at hx
 simp only [List.mem_append, List.mem_cons, List.not_mem_nil, or_false] at hx
 rcases hx with (((rfl | rfl) | hx) | hx) | (hx | rfl)
 ·exact h1
 ·exact Nat.le_trans (by decide) hB
 ·exact h2 x hx
 ·split at hx
  ·cases hx
  ·simp only [List.mem_cons, List.not_mem_nil, or_false] at hx
   rcases hx with rfl | rfl
   ·exact hB
   ·exact h3
 ·split at hx
  ·cases hx
  ·simp only [List.mem_cons, List.not_mem_nil, or_false] at hx
   subst hx
   simp only [List.length_append, List.length_cons, List.length_nil]; omega
 ·exact Nat.le_trans (by decide) hB
abbrev RuleLe (r : Rl) : Prop := r.1.length ≤ 10000 ∧ r.2.1.length ≤ 10000 ∧ (∀ x ∈ r.2.1, x.length ≤ 10000) ∧ r.2.2.1.length ≤ 10000 ∧ r.2.2.2.1.length ≤ 10000
theorem rule_ev (r : Rl) (h : RuleLe r) : E 23 [.tv [] tRl r] [] (sv (ruleT r)) [] := by
 have hp := parts_le r
 have hj := joinL_le 10002 (partsT r) (parts_mem r 10002 (by decide) (by have := h.1; omega) (fun x hx => by have := h.2.2.1 x hx; omega) (by have := h.2.2.2.1; omega) (by have := h.2.2.2.2; omega))
 have hc : (partsT r).length * (10002 + 1) ≤ 10006 * (10002 + 1) := Nat.mul_le_mul_right _ (by have := h.2.1; omega)
 have jv := join_ev (partsT r) [32] (by have := h.2.1; unfold bigN; omega) (by omega)
 obtain ⟨n, ns, p, a, ⟨⟩⟩ := r
 obtain ⟨h1, h2, h3, h4, h5⟩ := h
 dsimp only at h1 h2 h3 h4 h5
 have hb : (1000000 : Nat) ≤ bigN := by decide
 refine ev_of (vc23 n ns p a _ ?_)
 generalize bigN = big at hb ⊢
 refine ⟨⟨?_⟩, fun h => ⟨⟨?_⟩, fun h' => ⟨⟨?_⟩, ⟨?_⟩, ⟨?_⟩, ⟨?_⟩, ruleT (n, (ns, (p, (a, ())))), ⟨?_⟩, rfl, rfl⟩, fun h' => ⟨⟨?_⟩, ruleT (n, (ns, (p, (a, ())))), ⟨?_⟩, rfl, rfl⟩⟩, fun h => ⟨fun h' => ⟨⟨?_⟩, ⟨?_⟩, ⟨?_⟩, ⟨?_⟩, ruleT (n, (ns, (p, (a, ())))), ⟨?_⟩, rfl, rfl⟩, fun h' => ⟨⟨?_⟩, ruleT (n, (ns, (p, (a, ())))), ⟨?_⟩, rfl, rfl⟩⟩⟩
 all_goals first | omega | (simp only [List.length_append, List.length_cons, List.length_nil]; omega) | skip
 all_goals (simp only [Bool.not_eq_true', Bool.not_eq_false', decide_eq_true_eq, decide_eq_false_iff_not] at h h')
 all_goals (unfold ruleT; unfold partsT at jv ⊢; dsimp only at jv ⊢)
 ·rw [if_neg h, if_neg h', ← List.append_assoc] at jv ⊢; exact jv
 ·rw [if_neg h, if_pos h', List.nil_append] at jv ⊢; exact jv
 ·rw [if_pos h, if_neg h', List.append_nil, ← List.append_assoc] at jv ⊢; exact jv
 ·rw [if_pos h, if_pos h', List.append_nil, List.nil_append] at jv ⊢; exact jv
theorem nameO_le {s : List Int} (h : nameO s = true) : s.length ≤ 32 := by
 simp only [nameO, Bool.and_eq_true, decide_eq_true_eq] at h; exact h.1
theorem rulO_split {r : Rl} (h : rulO r = true) : nameO r.1 = true ∧ r.2.1.length ≤ 8 ∧ r.2.1.all nameO = true ∧ (r.2.2.1 = [] ∨ nameO r.2.2.1 = true) ∧ actO r.2.2.2.1 = true := by
 simpa only [rulO, Bool.and_eq_true, Bool.or_eq_true, decide_eq_true_eq] using h
theorem rule_len {r : Rl} (h : rulO r = true) : (ruleT r).length ≤ 3000 := by
 obtain ⟨h1, h2, h3, h4, h5⟩ := rulO_split h
 have hp := parts_le r
 have ha : r.2.2.2.1.length ≤ 200 := by simp only [actO, Bool.and_eq_true, decide_eq_true_eq] at h5; exact h5.1
 have hj := joinL_le 202 (partsT r) (parts_mem r 202 (by decide) (by have := nameO_le h1; omega) (fun x hx => by rw [List.all_eq_true] at h3; have := nameO_le (h3 x hx); omega) (by
  rcases h4 with h4 | h4
  ·rw [h4]; exact Nat.zero_le _
  ·have := nameO_le h4; omega) (by omega))
 have hc : (partsT r).length * (202 + 1) ≤ 14 * (202 + 1) := Nat.mul_le_mul_right _ (by omega)
 unfold ruleT; omega
def tkLine (t : Tk) : List Int := joinL [32] [[37, 116, 111, 107, 101, 110], t.1, patT t.2.1] ++ [10]
def skLine (p : Pat) : List Int := joinL [32] [[37, 115, 107, 105, 112], patT p] ++ [10]
def lvW (a : Int) : List Int := List.getD [[], [37, 108, 101, 102, 116], [37, 114, 105, 103, 104, 116], [37, 110, 111, 110, 97, 115, 115, 111, 99]] (Int.toNat a) []
def lvLine (x : Lv) : List Int := joinL [32] ([lvW x.1] ++ x.2.1) ++ [10]
def stLine (s : List Int) : List Int := joinL [32] [[37, 115, 116, 97, 114, 116], s] ++ [10]
def twoLine : List Int := joinL [32] [[37, 37]] ++ [10]
def rlLine (r : Rl) : List Int := joinL [32] [ruleT r] ++ [10]
def grT (g : Gr) : List Int := ((((g.1.flatMap tkLine ++ g.2.1.flatMap skLine) ++ g.2.2.1.flatMap lvLine) ++ stLine g.2.2.2.1) ++ twoLine) ++ g.2.2.2.2.1.flatMap rlLine
def printO (g : Gr) : List Int × Int := if rightO g = false then ([], 1) else if 4000 < (grT g).length then ([], 12) else (grT g, 0)
theorem line3 (a b c : List Int) : (joinL [32] [a, b, c]).length ≤ a.length + b.length + c.length + 2 := by
 rw [joinL_cons, joinL_cons, joinL_one]; simp only [List.length_append, List.length_singleton]; omega
theorem line2 (a b : List Int) : (joinL [32] [a, b]).length ≤ a.length + b.length + 1 := by
 rw [joinL_cons, joinL_one]; simp only [List.length_append, List.length_singleton]; omega
theorem lvW_le (a : Int) : (lvW a).length ≤ 9 := by
 unfold lvW
 match Int.toNat a with
 | 0 => decide
 | 1 => decide
 | 2 => decide
 | 3 => decide
 | n + 4 => simp
theorem print_ev (g : Gr) (hg : Few g) : E 20 [.tv [] tGr g] [] (.tup [sv (printO g).1, iv (printO g).2]) [] := by
  have hr := right_ev g hg
  obtain ⟨tk, sk, lv, st, rl, ⟨⟩⟩ := g
  have f1 := hg.tk
  have f2 := hg.tks
  have f3 := hg.sk
  have f4 := hg.sks
  have f5 := hg.lv
  have f6 := hg.lvn
  have f7 := hg.rl
  have f8 := hg.rls
  dsimp only at f1 f2 f3 f4 f5 f6 f7 f8
  have hpo : printO (tk, (sk, (lv, (st, (rl, ()))))) = printO (tk, (sk, (lv, (st, (rl, ()))))) := rfl
  conv at hpo => rhs; unfold printO
  refine ev_of (vc20 tk sk lv st rl _ ⟨_, ⟨hr⟩, fun h => ?_, fun h => ?_⟩)
  · simp only [Bool.not_eq_true'] at h
    rw [if_pos h] at hpo
    rw [hpo]; exact ⟨rfl, rfl⟩
  simp only [Bool.not_eq_false'] at h
  rw [if_neg (by rw [h]; decide)] at hpo
  simp only [rightO, tokO, lvO, Bool.and_eq_true, decide_eq_true_eq, List.all_eq_true] at h
  obtain ⟨⟨ht1, ht2, ht3⟩, ⟨hl1, hl2, hl3⟩, hs1, hs2, hst, hr1, hr2, hr3⟩ := h
  have b1 : ∀ t ∈ tk, (tkLine t).length ≤ 100000 := fun t ht => by
    have q := f2 t ht
    have q1 := patT_len t.2.1
    have q2 := line3 [37, 116, 111, 107, 101, 110] t.1 (patT t.2.1)
    unfold tkLine
    simp only [List.length_append, List.length_cons, List.length_nil] at q2 ⊢; omega
  have b2 : ∀ p ∈ sk, (skLine p).length ≤ 100000 := fun p ht => by
    have q := f4 p ht
    have q1 := patT_len p
    have q2 := line2 [37, 115, 107, 105, 112] (patT p)
    unfold skLine
    simp only [List.length_append, List.length_cons, List.length_nil] at q2 ⊢; omega
  have b3 : ∀ x ∈ lv, x.2.1.length ≤ 10000 ∧ (lvLine x).length ≤ 400000 := fun x hx => by
    have q : x.2.1.length ≤ (lv.flatMap (·.2.1)).length := by
      obtain ⟨a, b, rfl⟩ := List.append_of_mem hx
      simp only [List.flatMap_append, List.flatMap_cons, List.length_append]; omega
    have qn : ∀ s ∈ x.2.1, nameO s = true := fun s hs => by
      simp only [onceO, Bool.and_eq_true, List.all_eq_true] at hl3
      exact hl3.1 s (List.mem_flatMap.2 ⟨x, hx, hs⟩)
    have q2 := joinL_le 32 ([lvW x.1] ++ x.2.1) (fun s hs => by
      simp only [List.mem_append, List.mem_singleton] at hs
      rcases hs with rfl | hs
      · have := lvW_le x.1; omega
      · exact nameO_le (qn s hs))
    unfold lvLine
    simp only [List.length_append, List.length_cons, List.length_nil] at q2 ⊢; omega
  have b4 := nameO_le hst
  have b5 : ∀ r ∈ rl, (rlLine r).length ≤ 3001 := fun r hx => by
    have := rule_len (hr3 r hx)
    unfold rlLine
    rw [joinL_one, List.length_append, List.length_singleton]; omega
  refine ⟨fun z b => ∃ k : Nat, z = k ∧ k ≤ tk.length ∧ b = (tk.take k).flatMap tkLine, fun z _ => ((tk.length : Int) - z).toNat, ⟨0, rfl, by omega, rfl⟩, ?_⟩
  rintro z b ⟨k, rfl, hk, rfl⟩
  have c1 : ∀ k, ((tk.take k).flatMap tkLine).length ≤ 20 * 100000 := fun k => Nat.le_trans (flat_take_le tkLine 100000 tk k b1) (Nat.mul_le_mul_right _ ht2)
  refine ⟨fun h => ?_, fun h => ?_⟩
  · (simp only [decide_eq_true_eq, decide_eq_false_iff_not, Bool.not_eq_true', Bool.not_eq_false'] at h)
    have hk' : k < tk.length := by omega
    rw [Int.toNat_natCast]
    have hm := getD_mem' (([] : List Int), (([], ([], (false, ()))), ())) tk _ hk'
    have q := f2 _ hm
    have q1 := b1 _ hm
    have q2 := c1 k
    unfold tkLine at q1
    rw [List.length_append, List.length_singleton] at q1
    exact ⟨⟨by omega⟩, _, ⟨Pattern_ev _ q.2.1 q.2.2⟩, _, ⟨line_ev [[37, 116, 111, 107, 101, 110], (tk.getD k (([] : List Int), (([], ([], (false, ()))), ()))).1, patT (tk.getD k (([] : List Int), (([], ([], (false, ()))), ()))).2.1] _ (by show 3 ≤ _; omega) (by omega) (by omega)⟩, ⟨by omega⟩, ⟨k + 1, by omega, by omega, by rw [flat_snoc tkLine _ hk', tkLine, ← List.append_assoc]⟩, ⟨by ((try dsimp only); omega)⟩⟩
  (simp only [decide_eq_true_eq, decide_eq_false_iff_not, Bool.not_eq_true', Bool.not_eq_false'] at h)
  rw [show tk.take k = tk from List.take_of_length_le (by omega)]
  have c1 : (tk.flatMap tkLine).length ≤ 20 * 100000 := Nat.le_trans (flat_le tkLine 100000 tk b1) (Nat.mul_le_mul_right _ ht2)
  generalize hT1 : tk.flatMap tkLine = T1 at c1 ⊢
  refine ⟨fun z b => ∃ k : Nat, z = k ∧ k ≤ sk.length ∧ b = T1 ++ (sk.take k).flatMap skLine, fun z _ => ((sk.length : Int) - z).toNat, ⟨0, rfl, by omega, by simp⟩, ?_⟩
  clear hk h k
  rintro z b ⟨k, rfl, hk, rfl⟩
  have c2 : ∀ k, ((sk.take k).flatMap skLine).length ≤ 4 * 100000 := fun k => Nat.le_trans (flat_take_le skLine 100000 sk k b2) (Nat.mul_le_mul_right _ hs1)
  refine ⟨fun h => ?_, fun h => ?_⟩
  · (simp only [decide_eq_true_eq, decide_eq_false_iff_not, Bool.not_eq_true', Bool.not_eq_false'] at h)
    have hk' : k < sk.length := by omega
    rw [Int.toNat_natCast]
    have hm := getD_mem' (([] : List Int), (([] : List Int), (false, ()))) sk _ hk'
    have q := f4 _ hm
    have q1 := b2 _ hm
    have q2 := c2 k
    unfold skLine at q1
    rw [List.length_append, List.length_singleton] at q1
    exact ⟨⟨by omega⟩, _, ⟨Pattern_ev _ q.1 q.2⟩, _, ⟨line_ev [[37, 115, 107, 105, 112], patT (sk.getD k (([] : List Int), (([] : List Int), (false, ()))))] _ (by show 2 ≤ _; omega) (by omega) (by rw [List.length_append]; omega)⟩, ⟨by omega⟩, ⟨k + 1, by omega, by omega, by rw [flat_snoc skLine _ hk', skLine, ← List.append_assoc, ← List.append_assoc]⟩, ⟨by ((try dsimp only); omega)⟩⟩
  (simp only [decide_eq_true_eq, decide_eq_false_iff_not, Bool.not_eq_true', Bool.not_eq_false'] at h)
  rw [show sk.take k = sk from List.take_of_length_le (by omega)]
  have c2 : (T1 ++ sk.flatMap skLine).length ≤ 3000000 := by
    have := flat_le skLine 100000 sk b2
    have := Nat.mul_le_mul_right 100000 hs1
    rw [List.length_append]; omega
  generalize hT2 : T1 ++ sk.flatMap skLine = T2 at c2 ⊢
  refine ⟨fun z b => ∃ k : Nat, z = k ∧ k ≤ lv.length ∧ b = T2 ++ (lv.take k).flatMap lvLine, fun z _ => ((lv.length : Int) - z).toNat, ⟨0, rfl, by omega, by simp⟩, ?_⟩
  clear hk h k
  rintro z b ⟨k, rfl, hk, rfl⟩
  have c3 : ∀ k, ((lv.take k).flatMap lvLine).length ≤ 10 * 400000 := fun k => Nat.le_trans (flat_take_le lvLine 400000 lv k fun x hx => (b3 x hx).2) (Nat.mul_le_mul_right _ hl2)
  refine ⟨fun h => ?_, fun h => ?_⟩
  · (simp only [decide_eq_true_eq, decide_eq_false_iff_not, Bool.not_eq_true', Bool.not_eq_false'] at h)
    have hk' : k < lv.length := by omega
    rw [Int.toNat_natCast]
    have hm := getD_mem' ((0 : Int), (([] : List qT6), ())) lv _ hk'
    have q := b3 _ hm
    have q0 := hl1 _ hm
    simp only [lvO1, Bool.and_eq_true, decide_eq_true_eq] at q0
    have q1 := q.2
    have q2 := c3 k
    unfold lvLine at q1
    rw [List.length_append, List.length_singleton] at q1
    exact ⟨⟨by omega⟩, ⟨by omega⟩, ⟨by omega⟩, ⟨by simp only [List.length_cons, List.length_nil]; unfold bigN; omega⟩, _, ⟨line_ev ([lvW (lv.getD k ((0 : Int), (([] : List qT6), ()))).1] ++ (lv.getD k ((0 : Int), (([] : List qT6), ()))).2.1) _ (by rw [List.length_append, List.length_singleton]; omega) (by omega) (by rw [List.length_append]; omega)⟩, ⟨by omega⟩, ⟨rfl⟩, ⟨k + 1, by omega, by omega, by rw [flat_snoc lvLine _ hk', lvLine, ← List.append_assoc, ← List.append_assoc]⟩, ⟨by ((try dsimp only); omega)⟩⟩
  (simp only [decide_eq_true_eq, decide_eq_false_iff_not, Bool.not_eq_true', Bool.not_eq_false'] at h)
  rw [show lv.take k = lv from List.take_of_length_le (by omega)]
  have c3 : (T2 ++ lv.flatMap lvLine).length ≤ 8000000 := by
    have := flat_le lvLine 400000 lv fun x hx => (b3 x hx).2
    have := Nat.mul_le_mul_right 400000 hl2
    rw [List.length_append]; omega
  generalize hT3 : T2 ++ lv.flatMap lvLine = T3 at c3 ⊢
  have ls := line2 [37, 115, 116, 97, 114, 116] st
  simp only [List.length_cons, List.length_nil] at ls
  have c4 : ((T3 ++ stLine st) ++ twoLine).length ≤ 8001000 := by
    simp only [stLine, twoLine, List.length_append, joinL_one, List.length_cons, List.length_nil]; omega
  refine ⟨T3 ++ stLine st, ⟨?_⟩, (T3 ++ stLine st) ++ twoLine, ⟨?_⟩, ?_⟩
  · have := line_ev [[37, 115, 116, 97, 114, 116], st] T3 (by show 2 ≤ _; omega) (by omega) (by omega)
    rw [List.append_assoc] at this; exact this
  · have := line_ev [[37, 37]] (T3 ++ stLine st) (by show 1 ≤ _; omega) (by rw [joinL_one]; show 2 ≤ _; omega) (by rw [List.length_append] at c4; omega)
    rw [List.append_assoc] at this; exact this
  generalize hT4 : (T3 ++ stLine st) ++ twoLine = T4 at c4 ⊢
  refine ⟨fun z b => ∃ k : Nat, z = k ∧ k ≤ rl.length ∧ b = T4 ++ (rl.take k).flatMap rlLine, fun z _ => ((rl.length : Int) - z).toNat, ⟨0, rfl, by omega, by simp⟩, ?_⟩
  clear hk h k
  rintro z b ⟨k, rfl, hk, rfl⟩
  have c5 : ∀ k, ((rl.take k).flatMap rlLine).length ≤ 40 * 3001 := fun k => Nat.le_trans (flat_take_le rlLine 3001 rl k b5) (Nat.mul_le_mul_right _ hr2)
  refine ⟨fun h => ?_, fun h => ?_⟩
  · (simp only [decide_eq_true_eq, decide_eq_false_iff_not, Bool.not_eq_true', Bool.not_eq_false'] at h)
    have hk' : k < rl.length := by omega
    rw [Int.toNat_natCast]
    have hm := getD_mem' (([] : List Int), (([] : List qT6), (([] : List Int), (([] : List Int), ())))) rl _ hk'
    have q := f8 _ hm
    have q1 := b5 _ hm
    have q2 := c5 k
    unfold rlLine at q1
    rw [List.length_append, List.length_singleton] at q1
    exact ⟨⟨by omega⟩, _, ⟨rule_ev _ q⟩, _, ⟨line_ev _ _ (by show 1 ≤ _; omega) (by omega) (by rw [List.length_append]; omega)⟩, ⟨by omega⟩, ⟨rfl⟩, ⟨k + 1, by omega, by omega, by rw [flat_snoc rlLine _ hk', rlLine, ← List.append_assoc, ← List.append_assoc]⟩, ⟨by ((try dsimp only); omega)⟩⟩
  (simp only [decide_eq_true_eq, decide_eq_false_iff_not, Bool.not_eq_true', Bool.not_eq_false'] at h)
  rw [show rl.take k = rl from List.take_of_length_le (by omega)]
  have c5 : (T4 ++ rl.flatMap rlLine).length ≤ 9000000 := by
    have := flat_le rlLine 3001 rl b5
    have := Nat.mul_le_mul_right 3001 hr2
    rw [List.length_append]; omega
  have hT5 : grT (tk, (sk, (lv, (st, (rl, ()))))) = T4 ++ rl.flatMap rlLine := by
    unfold grT; dsimp only
    rw [hT1, hT2, hT3, hT4]
  rw [hT5] at hpo
  generalize T4 ++ rl.flatMap rlLine = T5 at c5 hpo ⊢
  refine ⟨_, _, ⟨len2_ev T5⟩, fun h2 => ?_, fun h2 => ⟨_, _, ⟨str2_ev T5 (by unfold bigN; omega)⟩, ?_⟩⟩
  · (simp only [decide_eq_true_eq, decide_eq_false_iff_not, Bool.not_eq_true', Bool.not_eq_false'] at h2)
    rw [if_pos (by omega)] at hpo
    rw [hpo]; exact ⟨rfl, rfl⟩
  · (simp only [decide_eq_true_eq, decide_eq_false_iff_not, Bool.not_eq_true', Bool.not_eq_false'] at h2)
    rw [if_neg (by omega)] at hpo
    rw [hpo]; exact ⟨rfl, rfl⟩
end Go.Am.R
