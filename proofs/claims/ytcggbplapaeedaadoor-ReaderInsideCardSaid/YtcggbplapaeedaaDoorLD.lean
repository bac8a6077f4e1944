/-
  A part of the proof of a law: see the text that states it.
-/
import Derived.Test.YtcggbplapaeedaaDoorLC
import Derived.Test.YtcggbplapaeedaaDoorVc1
set_option linter.all false
namespace Go.Am.R.L
open Go Go.Am.Pr
set_option maxRecDepth 100000
def actL (w : List Int) (deep : Int) (k : Nat) : List Int → Res
 | [] => .error (11, 0)
 | c :: r => if c = 123 then (if 4 < deep + 1 then .error (13, k) else actL w (deep + 1) (k + 1) r)
  else if c = 125 then (if 0 < deep - 1 then actL w (deep - 1) (k + 1) r else if 200 < (k : Int) - 1 then .error (12, 0) else .ok ((w.take k).drop 1, k + 1))
  else actL w deep (k + 1) r
def actK (r : List Int) : Res := actL r 0 0 r
theorem action_ev (s : List Int) (i : Int) (n : Nat) (e : i = n) (hn : n < s.length) (hl : s.length ≤ 1000000) (hc : s.getD n 0 = 123) :
  E 72 [.tv [] .str s, .tv [] (.int .i64) i] [] (outT n (actK (s.drop n))).1 (outT n (actK (s.drop n))).2 := by
 subst e
 refine ev_out (vc72 s n _ ?_)
 refine ⟨fun d z => ∃ k : Nat, z = ((n + k : Nat) : Int) ∧ n + k ≤ s.length ∧ (0 < k → 0 < d) ∧ d ≤ k ∧ (k = 0 → d = 0) ∧ actL (s.drop n) d k (s.drop (n + k)) = actK (s.drop n), fun _ z => (s.length - z).toNat, ⟨0, by omega, by omega, by omega, by omega, by omega, by simp [actK]⟩, ?_⟩
 rintro d z ⟨k, rfl, hk, hd1, hd2, hd3, hv⟩
 have hcc : k = 0 → s.getD (n + k) 0 = 123 := by rintro rfl; exact hc
 refine ⟨fun h => ?_, fun h => ?_⟩
 ·(simp only [decide_eq_true_eq, decide_eq_false_iff_not, Bool.not_eq_true', Bool.not_eq_false'] at h)
  have hn' : n + k < s.length := by omega
  rw [drop_cons (0 : Int) hn', actL] at hv
  rw [Int.toNat_natCast]
  refine ⟨⟨by omega⟩, fun h1 => ⟨⟨by omega⟩, fun h2 => ?_, fun h2 => ⟨⟨by omega⟩, ⟨k + 1, by omega, by omega, by omega, by omega, by omega, ?_⟩, ⟨by ((try dsimp only); omega)⟩⟩⟩, fun h1 => ⟨fun h2 => ⟨⟨by omega⟩, fun h3 => ⟨⟨by omega⟩, ⟨k + 1, by omega, by omega, fun _ => ?_, by omega, by omega, ?_⟩, ⟨by ((try dsimp only); omega)⟩⟩, fun h3 => ⟨⟨by omega⟩, ⟨by omega⟩, fun h4 => ?_, fun h4 => ⟨⟨by omega⟩, ⟨?_⟩, ⟨by omega⟩, ?_⟩⟩⟩, fun h2 => ⟨⟨by omega⟩, ⟨k + 1, by omega, by omega, fun _ => ?_, by omega, by omega, ?_⟩, ⟨by ((try dsimp only); omega)⟩⟩⟩⟩
  all_goals simp only [decide_eq_true_eq, decide_eq_false_iff_not, ne_eq, Decidable.not_not] at *
  ·rw [if_pos h1, if_pos h2] at hv
   rw [← hv]; simp [outT]
  ·rw [if_pos h1, if_neg h2] at hv
   rw [← hv, Nat.add_assoc]
  ·exact h3
  ·rw [if_neg h1, if_pos h2, if_pos h3] at hv
   rw [← hv, Nat.add_assoc]
  ·rw [if_neg h1, if_pos h2, if_neg h3, if_pos (by omega)] at hv
   rw [← hv]; simp [outT]
  ·refine ⟨by omega, ?_, by omega⟩
   have : k ≠ 0 := fun h0 => h1 (hcc h0)
   omega
  ·rw [if_neg h1, if_pos h2, if_neg h3, if_neg (by omega)] at hv
   have e1 : ((n + k : Nat) : Int) + 1 = (n : Int) + ((k + 1 : Nat) : Int) := by omega
   have e2 : cut s (Int.toNat ((n : Int) + 1)) (n + k) = ((s.drop n).take k).drop 1 := by
    have : Int.toNat ((n : Int) + 1) = n + 1 := by omega
    rw [this]
    unfold cut
    rw [List.drop_take, List.drop_take, List.drop_drop]
    congr 1; omega
   rw [← hv, e1, e2]; rfl
  ·have : k ≠ 0 := fun h0 => h1 (hcc h0)
   exact hd1 (by omega)
  ·rw [if_neg h1, if_neg h2] at hv
   rw [← hv, Nat.add_assoc]
 ·(simp only [decide_eq_true_eq, decide_eq_false_iff_not, Bool.not_eq_true', Bool.not_eq_false'] at h)
  have : s.drop (n + k) = [] := List.drop_eq_nil_of_le (by omega)
  rw [this] at hv
  simp only [actL] at hv
  rw [← hv]; simp [outT]
end Go.Am.R.L
