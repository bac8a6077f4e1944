/-
  A part of the proof of a law: see the text that states it.
-/
import Derived.Test.YtcggbplapaeedaaDoorS
set_option linter.all false
namespace Go.Am.R
open Go Go.Am.Pr Go.Am.R.L
set_option maxRecDepth 100000
abbrev kts (r : List L.Mark) : List Kt := r.map kt
def hdk : List Kt → Kt
 | [] => (0, [])
 | m :: _ => m
theorem kt_hd (r : List L.Mark) : kt (hd r) = hdk (kts r) := by
 cases r with
 | nil => rw [hd_nil]; rfl
 | cons m r => rw [hd_cons]; rfl
theorem hd1 (r : List L.Mark) : (hd r).1 = (hdk (kts r)).1 := congrArg Prod.fst (kt_hd r)
theorem hd2 (r : List L.Mark) : (hd r).2.1 = (hdk (kts r)).2 := congrArg Prod.snd (kt_hd r)
theorem kts_tail (r : List L.Mark) : kts r.tail = (kts r).tail := by cases r <;> rfl
theorem kts_len (r : List L.Mark) : r.length = (kts r).length := (List.length_map kt).symm
theorem rulesK_stop {r : List L.Mark} {f : Nat} {s : G} (h : (hdk (kts r)).1 = 0) (hs : s.rl ≠ []) : rulesK f r s = (none, r, s) := by
 cases f with
 | zero => rfl
 | succ f => rw [rulesK, if_neg (fun q => q.elim hs (fun q => q (by rw [hd1]; exact h)))]
theorem declsK_end {r : List L.Mark} {f : Nat} {s : G} {tl : List Kt} (h : kts r = (2, [37]) :: tl) : declsK (f + 1) r s = (none, r.tail, s) := by
 have h1 : (hd r).1 = 2 := by rw [hd1, h]; rfl
 have h2 : (hd r).2.1 = [37] := by rw [hd2, h]; rfl
 rw [declsK, if_neg (fun q => q h1), if_pos h2]
theorem marksK_ok {l r' : List L.Mark} {s' : G} (h : allK l G0 = (none, r', s')) : marksK l = (grOf s', dg0) := by rw [marksK, h]
theorem allK_two {l : List L.Mark} {tl : List Kt} (s : G) (h : kts l = (2, [37]) :: tl) : ∃ r, allK l s = rulesK (r.length + 1) r s ∧ kts r = tl := ⟨l.tail, by rw [allK, declsK_end h], by rw [kts_tail, h]; rfl⟩
end Go.Am.R
