/-
  A part of the proof of a law: see the text that states it.
-/
import Derived.Test.YtcggbplapaeedaaDoorLN
import Derived.Test.YtcggbplapaeedaaDoorVcB
set_option linter.all false
namespace Go.Am.R.L
open Go Go.Am.Pr
set_option maxRecDepth 100000
theorem cntB_snoc (c : Int) : ∀ (l : List Int) (a : Int), cntB (l ++ [a]) c = cntB l c + if a = c then 1 else 0
 | [], a => by simp only [List.nil_append, cntB]; split <;> rfl
 | b :: l, a => by
  simp only [List.cons_append, cntB, cntB_snoc c l a]
  split <;> split <;> omega
theorem posK_nl (a : List Int) : posK (a ++ [10]) = (1 + cntB a 10 + 1, 1, ()) := by
 unfold posK
 rw [cntB_snoc, lastB_snoc, if_pos rfl, if_pos rfl, List.length_append]
 have h1 : 1 + (cntB a 10 + 1) = 1 + cntB a 10 + 1 := by omega
 have h2 : ((a.length + [10].length : Nat) : Int) - (a.length : Int) = 1 := by simp only [List.length_cons, List.length_nil]; omega
 have h2 : ((a.length + [(10 : Int)].length : Nat) : Int) - (a.length : Int) = 1 := by simp only [List.length_cons, List.length_nil]; omega
 rw [h1, h2]
theorem posK_other (a : List Int) (c : Int) (h : c ≠ 10) : posK (a ++ [c]) = (1 + cntB a 10, (a.length : Int) - lastB a 10 + 1, ()) := by
 unfold posK
 rw [cntB_snoc, lastB_snoc, if_neg h, if_neg h, List.length_append]
 have h1 : 1 + (cntB a 10 + 0) = 1 + cntB a 10 := by omega
 have h2 : ((a.length + [c].length : Nat) : Int) - lastB a 10 = (a.length : Int) - lastB a 10 + 1 := by simp only [List.length_cons, List.length_nil]; omega
 rw [h1, h2]
def Sorted (k n : Nat) : List Mk → Prop
 | [] => True
 | q :: l => 1 ≤ q.1 ∧ q.1 ≤ 9 ∧ k ≤ q.2.2 ∧ q.2.2 < n ∧ Sorted (q.2.2 + 1) n l
theorem Sorted.le : ∀ {l : List Mk} {k j n : Nat}, j ≤ k → Sorted k n l → Sorted j n l
 | [], _, _, _, _, _ => trivial
 | _ :: _, _, _, _, h, ⟨h1, h2, h3, h4, h5⟩ => ⟨h1, h2, by omega, h4, h5⟩
theorem Sorted.told (s : List Int) : ∀ (l : List Mk) (k : Nat), k ≤ s.length → Sorted k s.length l → ∃ n : Nat → Nat, k ≤ n 0 ∧ (∀ i, i < (l.map (markOf s) ++ [(0, [], posK s, ())]).length → ((l.map (markOf s) ++ [(0, [], posK s, ())]).getD i ((0 : Int), (([] : List Int), (((0 : Int), ((0 : Int), ())), ())))).2.2.1 = posK (s.take (n i)) ∧ n i ≤ s.length) ∧
  (∀ i, i + 1 < (l.map (markOf s) ++ [(0, [], posK s, ())]).length → n i < n (i + 1) ∧ 1 ≤ ((l.map (markOf s) ++ [(0, [], posK s, ())]).getD i ((0 : Int), (([] : List Int), (((0 : Int), ((0 : Int), ())), ())))).1 ∧ ((l.map (markOf s) ++ [(0, [], posK s, ())]).getD i ((0 : Int), (([] : List Int), (((0 : Int), ((0 : Int), ())), ())))).1 ≤ 9)
 | [], k, hk, _ => ⟨fun _ => s.length, hk, fun i hi => by
   have : i = 0 := by simp at hi; omega
   subst this
   exact ⟨by rw [List.take_of_length_le (Nat.le_refl _)]; rfl, Nat.le_refl _⟩, fun i hi => by simp at hi⟩
 | q :: l, k, hk, ⟨h1, h2, h3, h4, h5⟩ => by
  obtain ⟨n, g0, g1, g2⟩ := Sorted.told s l (q.2.2 + 1) (by omega) h5
  refine ⟨fun i => match i with | 0 => q.2.2 | i + 1 => n i, h3, fun i hi => ?_, fun i hi => ?_⟩
  ·cases i with
   | zero => exact ⟨rfl, by dsimp only; omega⟩
   | succ i => exact g1 i (by simp at hi ⊢; omega)
  ·cases i with
   | zero => exact ⟨by dsimp only; omega, h1, h2⟩
   | succ i => exact g2 i (by simp at hi ⊢; omega)
end Go.Am.R.L
