/-
  A part of the proof of a law: see the text that states it.
-/
import Derived.Test.YtcggbplapaeedaaDoorLN
import Derived.Test.YtcggbplapaeedaaDoorVcB
set_option linter.all false
namespace Go.Am.R.L
open Go Go.Am.Pr
set_option maxRecDepth 100000
theorem cntB_snoc (c : Int) : ∀ (l : List Int) (a : Int), cntB (l ++ [a]) c = cntB l c + if a = c then 1 else 0
 | [], a => by simp only [List.nil_append, cntB]; split <;> rfl
 | b :: l, a => by
  simp only [List.cons_append, cntB, cntB_snoc c l a]
  split <;> split <;> omega
theorem posK_nl (a : List Int) : posK (a ++ [10]) = (1 + cntB a 10 + 1, 1, ()) := by
 unfold posK
 rw [cntB_snoc, lastB_snoc, if_pos rfl, if_pos rfl, List.length_append]
 have h1 : 1 + (cntB a 10 + 1) = 1 + cntB a 10 + 1 := by omega
 have h2 : ((a.length + [10].length : Nat) : Int) - (a.length : Int) = 1 := by simp only [List.length_cons, List.length_nil]; omega
 have h2 : ((a.length + [(10 : Int)].length : Nat) : Int) - (a.length : Int) = 1 := by simp only [List.length_cons, List.length_nil]; omega
 rw [h1, h2]
theorem posK_other (a : List Int) (c : Int) (h : c ≠ 10) : posK (a ++ [c]) = (1 + cntB a 10, (a.length : Int) - lastB a 10 + 1, ()) := by
 unfold posK
 rw [cntB_snoc, lastB_snoc, if_neg h, if_neg h, List.length_append]
 have h1 : 1 + (cntB a 10 + 0) = 1 + cntB a 10 := by omega
 have h2 : ((a.length + [c].length : Nat) : Int) - lastB a 10 = (a.length : Int) - lastB a 10 + 1 := by simp only [List.length_cons, List.length_nil]; omega
 rw [h1, h2]
theorem at18_ev (s : List Int) (i : Int) (hl : s.length ≤ 1000000) : E 14 [.tv [] .str s, .tv [] (.int .i64) i] [] (.tv [] W3 (posK (s.take (max 0 (min i s.length)).toNat))) [] := by
 refine ev_of (vc14 s i _ ?_)
 generalize hm : max 0 (min i (s.length : Int)) = m
 have hm0 : 0 ≤ m ∧ m ≤ s.length := by omega
 refine ⟨fun z a b => ∃ k : Nat, z = k ∧ (k : Int) ≤ m ∧ (a, b, ()) = posK (s.take k), fun z _ _ => (m - z).toNat, ⟨0, rfl, by omega, rfl⟩, ?_⟩
 rintro z a b ⟨k, rfl, hk, hv⟩
 have hb1 := cntB_bound 10 (s.take k)
 have hb2 := lastB_bound 10 (s.take k)
 have hlt : (s.take k).length ≤ s.length := by rw [List.length_take]; omega
 have ha : a = 1 + cntB (s.take k) 10 := congrArg Prod.fst hv
 have hbb : b = ((s.take k).length : Int) - lastB (s.take k) 10 := congrArg (fun q => q.2.1) hv
 refine ⟨fun h => ?_, fun h => ?_⟩
 ·(simp only [decide_eq_true_eq, decide_eq_false_iff_not, Bool.not_eq_true', Bool.not_eq_false'] at h)
  have hk' : k < s.length := by omega
  have hts := take_snoc (0 : Int) hk'
  rw [Int.toNat_natCast]
  refine ⟨⟨by omega⟩, ⟨by omega⟩, fun h2 => ⟨⟨by omega⟩, ⟨by omega⟩, ⟨rfl⟩, ⟨k + 1, by omega, by omega, ?_⟩, ⟨by ((try dsimp only); omega)⟩⟩, fun h2 => ⟨⟨by omega⟩, ⟨rfl⟩, ⟨k + 1, by omega, by omega, ?_⟩, ⟨by ((try dsimp only); omega)⟩⟩⟩
  ·(simp only [decide_eq_true_eq, decide_eq_false_iff_not, Bool.not_eq_true', Bool.not_eq_false'] at h2)
   rw [hts, h2, posK_nl, ha]
  ·(simp only [decide_eq_true_eq, decide_eq_false_iff_not, Bool.not_eq_true', Bool.not_eq_false'] at h2)
   rw [hts, posK_other _ _ h2, ha, hbb]
 ·(simp only [decide_eq_true_eq, decide_eq_false_iff_not, Bool.not_eq_true', Bool.not_eq_false'] at h)
  have : m.toNat = k := by omega
  rw [this, ← hv]; exact ⟨rfl, rfl⟩
theorem text_code : ∀ (f : Nat) (r out : List Int) (k : Nat) {e : Int} {d : Nat}, r.length ≤ f → textL out k r = .error (e, d) → e ≠ 0
 | f, [], out, k, e, d, _, h => by cases h; decide
 | 0, c :: r, out, k, e, d, hf, h => by simp at hf
 | f + 1, c :: r, out, k, e, d, hf, h => by
  rw [textL_cons] at h
  simp only [List.length_cons] at hf
  split at h
  ·cases h; decide
  ·split at h
   ·split at h
    ·cases h; decide
    ·split at h
     ·cases h; decide
     ·cases h
   ·split at h
    ·cases r with
     | nil => cases h; decide
     | cons d r =>
      simp only at h
      split at h
      ·cases h; decide
      ·exact text_code f r _ _ (by simp at hf; omega) h
    ·exact text_code f r _ _ (by omega) h
theorem act_code : ∀ (r w : List Int) (d : Int) (k : Nat) {e : Int} {j : Nat}, actL w d k r = .error (e, j) → e ≠ 0
 | [], w, d, k, e, j, h => by cases h; decide
 | c :: r, w, d, k, e, j, h => by
  simp only [actL] at h
  split at h
  ·split at h
   ·cases h; decide
   ·exact act_code r _ _ _ h
  ·split at h
   ·split at h
    ·exact act_code r _ _ _ h
    ·split at h
     ·cases h; decide
     ·cases h
   ·exact act_code r _ _ _ h
theorem cls_code (f : Nat) : ∀ (sm : Bool) (last : Int) (has : List Bool) (k : Nat) (r : List Int) {e : Int} {j : Nat}, clsL f sm last has k r = .error (e, j) → e ≠ 0 := by
 induction f with
 | zero => intro sm last has k r e j h; cases h; decide
 | succ f ih =>
  intro sm last has k r e j h
  cases r with
  | nil => cases h; decide
  | cons c r =>
   rw [clsL_cons] at h
   split at h
   ·cases h; decide
   ·split at h
    ·split at h
     ·cases h; decide
     ·cases h
    ·split at h
     ·split at h
      ·cases h; decide
      ·cases r with
       | nil => cases h; decide
       | cons d r =>
        simp only at h
        split at h
        ·cases h; decide
        ·split at h
         ·cases h; decide
         ·cases hx : oneS (d :: r) with
          | none => rw [hx] at h; cases h; decide
          | some q =>
           obtain ⟨y, j⟩ := q
           rw [hx] at h
           simp only at h
           split at h
           ·cases h; decide
           ·exact ih _ _ _ _ _ h
     ·cases hx : oneS (c :: r) with
      | none => rw [hx] at h; cases h; decide
      | some q =>
       obtain ⟨y, j⟩ := q
       rw [hx] at h
       exact ih _ _ _ _ _ h
theorem tokOf_err {kd : Int} {o : Res} {e : Int} {d : Nat} (h : tokOf kd o = .error (e, d)) : o = .error (e, d) := by
 match o, h with
 | .error q, h => cases h; rfl
theorem tok_code {r : List Int} {e : Int} {d : Nat} (h : tokK r = .error (e, d)) : e ≠ 0 := by
 cases r with
 | nil => cases h; decide
 | cons c r =>
  rw [tokK] at h
  split at h
  ·cases h
  ·split at h
   ·cases h
   ·split at h
    ·split at h
     ·cases h; decide
     ·cases h
    ·split at h
     ·have := tokOf_err h
      unfold wordK at this
      generalize (if (c :: r).tail.head? = some 37 then 1 else runK lowerK (c :: r).tail) = g at this
      dsimp only at this
      by_cases h7 : (c :: r).tail.take g ∈ wordsL
      ·rw [if_pos h7] at this; cases this
      ·rw [if_neg h7] at this; cases this; decide
     ·split at h
      ·exact text_code _ _ _ _ (Nat.le_refl _) (tokOf_err h)
      ·split at h
       ·exact cls_code _ _ _ _ _ _ (tokOf_err h)
       ·split at h
        ·exact act_code _ _ _ _ (tokOf_err h)
        ·split at h
         ·cases h
         ·cases h; decide
theorem lexS_code : ∀ (f k : Nat) (r : List Int) {e : Int} {d : Nat}, lexS f k r = .error (e, d) → e ≠ 0
 | 0, k, r, e, d, h => by cases h
 | f + 1, k, [], e, d, h => by cases h
 | f + 1, k, c :: r, e, d, h => by
  rw [lexS_cons] at h
  cases hx : tokK (c :: r) with
  | error q =>
   rw [hx] at h
   obtain ⟨e', d'⟩ := q
   have : e' = e := by cases h; rfl
   subst this
   exact tok_code hx
  | ok q =>
   obtain ⟨kd, t, m, ok⟩ := q
   rw [hx] at h
   simp only at h
   cases hy : lexS f (k + m) ((c :: r).drop m) with
   | error q =>
    rw [hy] at h
    obtain ⟨e', d'⟩ := q
    have : e' = e := by cases h; rfl
    subst this
    exact lexS_code f _ _ hy
   | ok l => rw [hy] at h; cases h
def Sorted (k n : Nat) : List Mk → Prop
 | [] => True
 | q :: l => 1 ≤ q.1 ∧ q.1 ≤ 9 ∧ k ≤ q.2.2 ∧ q.2.2 < n ∧ Sorted (q.2.2 + 1) n l
theorem Sorted.le : ∀ {l : List Mk} {k j n : Nat}, j ≤ k → Sorted k n l → Sorted j n l
 | [], _, _, _, _, _ => trivial
 | _ :: _, _, _, _, h, ⟨h1, h2, h3, h4, h5⟩ => ⟨h1, h2, by omega, h4, h5⟩
end Go.Am.R.L
