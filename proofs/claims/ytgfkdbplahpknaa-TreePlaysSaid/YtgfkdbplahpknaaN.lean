/-
  A part of the proof of a law: see the text that states it.
-/
import Derived.Test.YtgfkdbplahpknaaM
set_option linter.all false
namespace Go.Am.T
open Go
set_option maxRecDepth 100000
theorem few_ev (l : List Op) (hl : l.length ≤ maxLen) : ∃ b : Bool, (b = true → l.length ≤ 40 ∧ ∀ o ∈ l, o.2.2.2.2.1.length ≤ 10) ∧ E 21 [.tv [] (.slice tOp) l] [] (bv b) [] := by
 unfold maxLen at hl
 have key : EvF PP orc 21 [.tv [] (.slice tOp) l] [] fun v h => ∃ b : Bool, (b = true → l.length ≤ 40 ∧ ∀ o ∈ l, o.2.2.2.2.1.length ≤ 10) ∧ v = bv b ∧ h = [] := by
  refine vc21 l _ ?_
  refine ⟨fun i => ∃ k : Nat, i = k ∧ k ≤ l.length ∧ ∀ o ∈ l.take k, o.2.2.2.2.1.length ≤ 10, fun i => ((l.length : Int) - i).toNat, ⟨0, rfl, by omega, by simp⟩, ?_⟩
  rintro _ ⟨k, rfl, hk, hv⟩
  refine ⟨fun h => ?_, fun h => ?_⟩
  ·(simp only [decide_eq_true_eq, decide_eq_false_iff_not, Bool.not_eq_true', Bool.not_eq_false'] at h)
   have hk' : k < l.length := by omega
   simp only [Int.toNat_natCast]
   refine ⟨⟨by omega⟩, fun h2 => ⟨false, nofun, rfl, (by first | trivial | exact rfl | exact ⟨rfl, rfl⟩ | omega)⟩, fun h2 => ⟨⟨by omega⟩, ⟨k + 1, by omega, by omega, ?_⟩, ⟨by ((try dsimp only); omega)⟩⟩⟩
   (simp only [decide_eq_true_eq, decide_eq_false_iff_not, Bool.not_eq_true', Bool.not_eq_false'] at h2)
   rw [take_snoc ((0 : Int), ((0 : Int), ((0 : Int), (((0 : Int), ((0 : Int), ((0 : Int), ()))), (([] : List Int), ()))))) hk']
   intro o ho
   rcases List.mem_append.1 ho with ho | ho
   ·exact hv o ho
   ·simp only [List.mem_singleton] at ho; rw [ho]; omega
  ·(simp only [decide_eq_true_eq, decide_eq_false_iff_not, Bool.not_eq_true', Bool.not_eq_false'] at h)
   have : k = l.length := by omega
   subst this
   rw [List.take_length] at hv
   exact ⟨_, fun h => ⟨by simp only [decide_eq_true_eq] at h; omega, hv⟩, rfl, (by first | trivial | exact rfl | exact ⟨rfl, rfl⟩ | omega)⟩
 obtain ⟨v, h', e, b, hb, rfl, rfl⟩ := key
 exact ⟨b, hb, e⟩
theorem Few_ev (s : Sml) (n m : Nat) (hl : s.2.2.2.1.length ≤ maxLen) : ∃ b : Bool, (b = true → s.2.2.1.length ≤ n ∧ s.2.2.2.2.2.1.length ≤ 5 ∧ ∀ x ∈ s.2.2.2.1, x.length ≤ m) ∧ E 20 [.tv [] tSm s, iv n, iv m] [] (bv b) [] := by
 obtain ⟨x0, x1, a2, a3, a4, a5, a6, _⟩ := s
 simp only at hl
 unfold maxLen at hl
 have key : EvF PP orc 20 [.tv [] tSm (x0, x1, a2, a3, a4, a5, a6, ()), iv n, iv m] [] fun v h => ∃ b : Bool, (b = true → a2.length ≤ n ∧ a5.length ≤ 5 ∧ ∀ x ∈ a3, x.length ≤ m) ∧ v = bv b ∧ h = [] := by
  refine vc20 x0 x1 a2 a3 a4 a5 a6 n m _ ⟨fun h => ⟨false, nofun, rfl, rfl⟩, fun h1 => ⟨fun h => ⟨false, nofun, rfl, rfl⟩, fun h2 => ?_⟩⟩
  (simp only [decide_eq_true_eq, decide_eq_false_iff_not, Bool.not_eq_true', Bool.not_eq_false'] at h1); (simp only [decide_eq_true_eq, decide_eq_false_iff_not, Bool.not_eq_true', Bool.not_eq_false'] at h2)
  refine ⟨fun i => ∃ k : Nat, i = k ∧ k ≤ a3.length ∧ ∀ o ∈ a3.take k, o.length ≤ m, fun i => ((a3.length : Int) - i).toNat, ⟨0, rfl, by omega, by simp⟩, ?_⟩
  rintro _ ⟨k, rfl, hk, hv⟩
  refine ⟨fun h => ?_, fun h => ?_⟩
  ·(simp only [decide_eq_true_eq, decide_eq_false_iff_not, Bool.not_eq_true', Bool.not_eq_false'] at h)
   have hk' : k < a3.length := by omega
   simp only [Int.toNat_natCast]
   refine ⟨⟨by omega⟩, fun h2 => ⟨false, nofun, rfl, (by first | trivial | exact rfl | exact ⟨rfl, rfl⟩ | omega)⟩, fun h2 => ⟨⟨by omega⟩, ⟨k + 1, by omega, by omega, ?_⟩, ⟨by ((try dsimp only); omega)⟩⟩⟩
   (simp only [decide_eq_true_eq, decide_eq_false_iff_not, Bool.not_eq_true', Bool.not_eq_false'] at h2)
   rw [take_snoc ([] : List Int) hk']
   intro o ho
   rcases List.mem_append.1 ho with ho | ho
   ·exact hv o ho
   ·simp only [List.mem_singleton] at ho; rw [ho]; omega
  ·(simp only [decide_eq_true_eq, decide_eq_false_iff_not, Bool.not_eq_true', Bool.not_eq_false'] at h)
   have : k = a3.length := by omega
   subst this
   rw [List.take_length] at hv
   exact ⟨true, fun _ => ⟨by omega, by omega, hv⟩, rfl, (by first | trivial | exact rfl | exact ⟨rfl, rfl⟩ | omega)⟩
 obtain ⟨v, h', e, b, hb, rfl, rfl⟩ := key
 exact ⟨b, hb, e⟩
end Go.Am.T
