/-
  A part of the proof of a law: see the text that states it.
-/
import Derived.Test.YtcggbplapaeedaaDoorS
set_option linter.all false
namespace Go.Am.R
open Go Go.Am.Pr Go.Am.R.L
set_option maxRecDepth 100000
abbrev kts (r : List L.Mark) : List Kt := r.map kt
def hdk : List Kt → Kt
 | [] => (0, [])
 | m :: _ => m
theorem kt_hd (r : List L.Mark) : kt (hd r) = hdk (kts r) := by
 cases r with
 | nil => rw [hd_nil]; rfl
 | cons m r => rw [hd_cons]; rfl
theorem hd1 (r : List L.Mark) : (hd r).1 = (hdk (kts r)).1 := congrArg Prod.fst (kt_hd r)
theorem hd2 (r : List L.Mark) : (hd r).2.1 = (hdk (kts r)).2 := congrArg Prod.snd (kt_hd r)
theorem kts_tail (r : List L.Mark) : kts r.tail = (kts r).tail := by cases r <;> rfl
theorem rightK_fwd : ∀ (ns : Ns) (r : List L.Mark) (acc : Ns) (tl : List Kt), kts r = ns.map (fun n => ((1 : Int), n)) ++ tl → (hdk tl).1 ≠ 1 → acc.length + ns.length ≤ 8 → ∃ r', rightK r acc = (none, r', acc ++ ns) ∧ kts r' = tl
 | [], r, acc, tl, h, h1, _ => ⟨r, by rw [rightK_stop (by rw [hd1, h]; exact h1), List.append_nil], h⟩
 | n :: ns, r, acc, tl, h, h1, hl => by
  simp only [List.length_cons] at hl
  have e1 : (hd r).1 = 1 := by rw [hd1, h]; rfl
  have e2 : (hd r).2.1 = n := by rw [hd2, h]; rfl
  obtain ⟨r', g1, g2⟩ := rightK_fwd ns r.tail (acc ++ [n]) tl (by rw [kts_tail, h]; rfl) h1 (by simp only [List.length_append, List.length_cons, List.length_nil]; omega)
  exact ⟨r', by rw [rightK_go e1 (by omega), e2, g1]; simp, g2⟩
def precM (p : List Int) : List Kt := if p = [] then [] else [(2, precT), (1, p)]
def actM (a : List Int) : List Kt := if a = [] then [] else [(9, a)]
abbrev altM (ns : Ns) (p a : List Int) : List Kt := ns.map (fun n => ((1 : Int), n)) ++ (precM p ++ actM a)
theorem actK_fwd {r : List L.Mark} {a : List Int} {tl : List Kt} (h : kts r = actM a ++ tl) (h9 : (hdk tl).1 ≠ 9) : ∃ r', L.actK = L.actK ∧ Go.Am.R.actK r = (a, r') ∧ kts r' = tl := by
 unfold actM at h
 split at h
 ·rename_i ha
  refine ⟨r, rfl, ?_, h⟩
  rw [actK_n (by rw [hd1, h]; exact h9), ha]
 ·refine ⟨r.tail, rfl, ?_, by rw [kts_tail, h]; rfl⟩
  rw [actK_y (by rw [hd1, h]; rfl), hd2, h]; rfl
theorem altK_fwd {r : List L.Mark} {ns : Ns} {p a : List Int} {tl : List Kt} (left : List Int) (s : G) (h : kts r = altM ns p a ++ tl) (ht : (hdk tl).1 = 7 ∨ (hdk tl).1 = 8) (hn : ns.length ≤ 8) (hs : s.rl.length < 40) :
  ∃ r', altK left r s = (none, r', { s with rl := s.rl ++ [(left, (ns, (p, (a, ()))))] }) ∧ kts r' = tl := by
 have ht1 : (hdk tl).1 ≠ 1 := by omega
 have ht9 : (hdk tl).1 ≠ 9 := by omega
 have ht2 : (hdk tl).1 ≠ 2 := by omega
 have hx : (hdk (precM p ++ (actM a ++ tl))).1 ≠ 1 := by
  unfold precM actM
  split
  ·split
   ·exact ht1
   ·show (9 : Int) ≠ 1; decide
  ·show (2 : Int) ≠ 1; decide
 obtain ⟨r1, g1, g2⟩ := rightK_fwd ns r [] (precM p ++ (actM a ++ tl)) (by rw [h]; simp) hx (by simpa using hn)
 rw [altK, if_neg (by omega), g1, List.nil_append]
 simp only
 by_cases hp : p = []
 ·have g3 : kts r1 = actM a ++ tl := by rw [g2, precM, if_pos hp]; rfl
  obtain ⟨r2, _, k1, k2⟩ := actK_fwd g3 ht9
  have hn2 : (hdk (actM a ++ tl)).1 ≠ 2 := by
   unfold actM
   split
   ·exact ht2
   ·show (9 : Int) ≠ 2; decide
  refine ⟨r2, ?_, k2⟩
  rw [altF, if_neg (fun q => by rw [hd1, g3] at q; exact hn2 q.1), altE, k1, hp]
 ·have g3 : kts r1 = (2, precT) :: (1, p) :: (actM a ++ tl) := by rw [g2, precM, if_neg hp]; rfl
  have g4 : kts r1.tail = (1, p) :: (actM a ++ tl) := by rw [kts_tail, g3]; rfl
  have g5 : kts r1.tail.tail = actM a ++ tl := by rw [kts_tail, g4]; rfl
  obtain ⟨r2, _, k1, k2⟩ := actK_fwd g5 ht9
  refine ⟨r2, ?_, k2⟩
  rw [altF, if_pos ⟨by rw [hd1, g3]; rfl, by rw [hd2, g3]; rfl⟩, if_pos (by rw [hd1, g4]; rfl), altE, k1, hd2, g4]
  rfl
theorem altsK_end {r : List L.Mark} {ns : Ns} {p a : List Int} {tl : List Kt} (f : Nat) (left : List Int) (s : G) (h : kts r = altM ns p a ++ (8, []) :: tl) (hn : ns.length ≤ 8) (hs : s.rl.length < 40) :
  ∃ r', altsK (f + 1) left r s = (none, r', { s with rl := s.rl ++ [(left, (ns, (p, (a, ()))))] }) ∧ kts r' = tl := by
 obtain ⟨r', g1, g2⟩ := altK_fwd left s h (.inr rfl) hn hs
 refine ⟨r'.tail, ?_, by rw [kts_tail, g2]; rfl⟩
 rw [altsK, g1]
 simp only
 rw [if_neg (by rw [hd1, g2]; exact (by decide : (8 : Int) ≠ 7)), if_pos (by rw [hd1, g2]; rfl)]
theorem ruleK_fwd {r : List L.Mark} {left : List Int} {tl : List Kt} (s : G) (h : kts r = (1, left) :: (6, []) :: tl) : ∃ r', ruleK r s = altsK (r.length + 1) left r' s ∧ kts r' = tl := by
 have h2 : kts r.tail = (6, []) :: tl := by rw [kts_tail, h]; rfl
 refine ⟨r.tail.tail, ?_, by rw [kts_tail, h2]; rfl⟩
 rw [ruleK, if_pos (by rw [hd1, h]; rfl), if_pos (by rw [hd1, h2]; rfl), hd2, h]
 rfl
theorem rulesK_stop {r : List L.Mark} {f : Nat} {s : G} (h : (hdk (kts r)).1 = 0) (hs : s.rl ≠ []) : rulesK f r s = (none, r, s) := by
 cases f with
 | zero => rfl
 | succ f => rw [rulesK, if_neg (fun q => q.elim hs (fun q => q (by rw [hd1]; exact h)))]
theorem declsK_end {r : List L.Mark} {f : Nat} {s : G} {tl : List Kt} (h : kts r = (2, [37]) :: tl) : declsK (f + 1) r s = (none, r.tail, s) := by
 have h1 : (hd r).1 = 2 := by rw [hd1, h]; rfl
 have h2 : (hd r).2.1 = [37] := by rw [hd2, h]; rfl
 rw [declsK, if_neg (fun q => q h1), if_pos h2]
theorem marksK_ok {l r' : List L.Mark} {s' : G} (h : allK l G0 = (none, r', s')) : marksK l = (grOf s', dg0) := by rw [marksK, h]
end Go.Am.R
