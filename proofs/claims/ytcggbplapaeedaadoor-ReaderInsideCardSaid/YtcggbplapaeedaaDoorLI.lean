/-
  A part of the proof of a law: see the text that states it.
-/
import Derived.Test.YtcggbplapaeedaaDoorLH
import Derived.Test.YtcggbplapaeedaaDoorVc1
import Derived.Test.YtcggbplapaeedaaDoorVc2
set_option linter.all false
namespace Go.Am.R.L
open Go Go.Am.Pr
set_option maxRecDepth 100000
def lastB : List Int → Int → Int
 | [], _ => -1
 | a :: l, c => if 0 ≤ lastB l c then lastB l c + 1 else if a = c then 0 else -1
theorem lastB_snoc (c : Int) : ∀ (l : List Int) (a : Int), lastB (l ++ [a]) c = if a = c then (l.length : Int) else lastB l c
 | [], a => by simp [lastB]
 | b :: l, a => by
  simp only [List.cons_append, lastB, lastB_snoc c l a, List.length_cons]
  by_cases h : a = c
  ·simp only [if_pos h]; rw [if_pos (by omega)]; omega
  ·simp only [if_neg h]
theorem lastB_bound (c : Int) : ∀ l : List Int, -1 ≤ lastB l c ∧ (lastB l c < l.length)
 | [] => by simp [lastB]
 | b :: l => by
  have := lastB_bound c l
  simp only [lastB, List.length_cons]
  split
  ·omega
  ·split <;> omega
theorem last_ev (s : List Int) (c : Int) (hl : s.length ≤ 1000000) : E 93 [.tv [] .str s, .tv [] (.int .u8) c] [] (.tv [] (.int .i64) (lastB s c)) [] := by
 refine ev_of (vc93 s c _ ?_)
 refine ⟨⟨by omega⟩, fun z => ∃ k : Nat, z = (k : Int) - 1 ∧ k ≤ s.length ∧ lastB (s.take k) c = lastB s c, fun z => (z + 1).toNat, ⟨s.length, rfl, by omega, by simp⟩, ?_⟩
 rintro z ⟨k, rfl, hk, hv⟩
 refine ⟨fun h => ?_, fun h => ?_⟩
 ·(simp only [decide_eq_true_eq, decide_eq_false_iff_not, Bool.not_eq_true', Bool.not_eq_false'] at h)
  obtain ⟨j, rfl⟩ : ∃ j, k = j + 1 := ⟨k - 1, by omega⟩
  have e1 : (((j + 1 : Nat) : Int) - 1) = (j : Int) := by omega
  rw [take_snoc (0 : Int) (by omega), lastB_snoc] at hv
  rw [e1, Int.toNat_natCast]
  refine ⟨⟨by omega⟩, fun h2 => ?_, fun h2 => ⟨⟨by omega⟩, ⟨j, by omega, by omega, ?_⟩, ⟨by ((try dsimp only); omega)⟩⟩⟩
  ·(simp only [decide_eq_true_eq, decide_eq_false_iff_not, Bool.not_eq_true', Bool.not_eq_false'] at h2)
   rw [if_pos h2, List.length_take] at hv
   exact ⟨tvI (by omega), rfl⟩
  ·(simp only [decide_eq_true_eq, decide_eq_false_iff_not, Bool.not_eq_true', Bool.not_eq_false'] at h2)
   rw [if_neg h2] at hv; exact hv
 ·(simp only [decide_eq_true_eq, decide_eq_false_iff_not, Bool.not_eq_true', Bool.not_eq_false'] at h)
  have : k = 0 := by omega
  subst this
  exact ⟨tvI (by rw [← hv]; simp [lastB]), rfl⟩
theorem last1_ev (s : List Int) (c : Int) (hl : s.length ≤ 1000000) : E 75 [.tv [] .str s, .tv [] (.int .u8) c] [] (.tv [] (.int .i64) (lastB s c)) [] := ev_of (vc75 s c _ ⟨_, ⟨last_ev s c hl⟩, rfl, rfl⟩)
theorem count_ev (s : List Int) (c : Int) : E 74 [.tv [] .str s, .tv [] .str [c]] [] (.tv [] (.int .i64) (cntB s c)) [] := ev_of (vc74 s c _ ⟨rfl, rfl⟩)
theorem cntB_bound (c : Int) : ∀ l : List Int, 0 ≤ cntB l c ∧ cntB l c ≤ l.length
 | [] => by simp [cntB]
 | b :: l => by
  have := cntB_bound c l
  simp only [cntB, List.length_cons]
  split <;> omega
def posK (a : List Int) : Int × Int × Unit := (1 + cntB a 10, (a.length : Int) - lastB a 10, ())
theorem at_ev (s : List Int) (i : Int) (hl : s.length ≤ 1000000) : E 52 [.tv [] .str s, .tv [] (.int .i64) i] [] (.tv [] W3 (posK (s.take (max 0 (min i s.length)).toNat))) [] := by
 refine ev_of (vc52 s i _ ?_)
 have hcut : cut s 0 (Int.toNat (max 0 (min i (s.length : Int)))) = s.take (max 0 (min i (s.length : Int))).toNat := by simp [cut]
 rw [hcut]
 generalize hm : s.take (max 0 (min i (s.length : Int))).toNat = a
 have ha : a.length ≤ s.length := by rw [← hm, List.length_take]; omega
 have h1 := cntB_bound 10 a
 have h2 := lastB_bound 10 a
 refine ⟨⟨by omega⟩, _, ⟨count_ev a 10⟩, ⟨by omega⟩, _, ⟨last1_ev a 10 (by omega)⟩, ⟨by omega⟩, rfl, rfl⟩
end Go.Am.R.L
