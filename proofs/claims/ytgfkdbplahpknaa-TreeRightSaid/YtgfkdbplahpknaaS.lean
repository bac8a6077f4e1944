/-
  A part of the proof of a law: see the text that states it.
-/
import Derived.Test.YtgfkdbplahpknaaR
import Derived.Test.YtgfkdbplahpknaaVcI
import Derived.Test.YtgfkdbplahpknaaVcJ
set_option linter.all false
namespace Go.Am.T
open Go
set_option maxRecDepth 100000
theorem same_lists {a b : List Int} (h : a.length = b.length) (hk : ∀ k, k < a.length → a.getD k 0 = b.getD k 0) : a = b := by
 refine List.ext_getElem h fun i h1 h2 => ?_
 have := hk i h1
 rwa [List.getD_eq_getElem?_getD, List.getD_eq_getElem?_getD, List.getElem?_eq_getElem h1, List.getElem?_eq_getElem h2] at this
theorem ints_ev (x y : List Int) (hl : x.length ≤ 1000000) : E 15 [lv x, lv y] [] (bv (decide (x = y))) [] := by
 refine ev_of (vc15 x y _ ⟨fun h => ?_, fun h => ?_⟩)
 ·(simp only [decide_eq_true_eq, decide_eq_false_iff_not, Bool.not_eq_true', Bool.not_eq_false'] at h)
  have : x ≠ y := fun e => h (by rw [e])
  simp [this]
 ·have h' : x.length = y.length := by simp at h; omega
  refine ⟨fun i => ∃ k : Nat, i = k ∧ k ≤ x.length ∧ ∀ j, j < k → x.getD j 0 = y.getD j 0, fun i => ((x.length : Int) - i).toNat, ⟨0, rfl, by omega, fun j hj => by omega⟩, ?_⟩
  rintro _ ⟨k, rfl, hk, hv⟩
  refine ⟨fun h2 => ?_, fun h2 => ?_⟩
  ·(simp only [decide_eq_true_eq, decide_eq_false_iff_not, Bool.not_eq_true', Bool.not_eq_false'] at h2)
   simp only [Int.toNat_natCast]
   refine ⟨⟨by omega⟩, ⟨by omega⟩, fun h3 => ?_, fun h3 => ⟨⟨by omega⟩, ⟨k + 1, by omega, by omega, fun j hj => ?_⟩, ⟨by ((try dsimp only); omega)⟩⟩⟩
   ·(simp only [decide_eq_true_eq, decide_eq_false_iff_not, Bool.not_eq_true', Bool.not_eq_false'] at h3)
    have : x ≠ y := fun e => h3 (by rw [e])
    simp [this]
   ·by_cases e : j = k
    ·subst e; simpa using h3
    ·exact hv j (by omega)
  ·(simp only [decide_eq_true_eq, decide_eq_false_iff_not, Bool.not_eq_true', Bool.not_eq_false'] at h2)
   have : x = y := same_lists h' fun j hj => hv j (by omega)
   simp [this]
theorem equal_ev (x y : List Int) (hl : x.length ≤ 1000000) : E 73 [lv x, lv y] [] (bv (decide (x = y))) [] := by
 refine ev_of (vc73 x y _ ⟨fun h => ?_, fun h => ?_⟩)
 ·(simp only [decide_eq_true_eq, decide_eq_false_iff_not, Bool.not_eq_true', Bool.not_eq_false'] at h)
  have : x ≠ y := fun e => h (by rw [e])
  simp [this]
 ·have h' : x.length = y.length := by simp at h; omega
  refine ⟨fun i => ∃ k : Nat, i = k ∧ k ≤ x.length ∧ ∀ j, j < k → x.getD j 0 = y.getD j 0, fun i => ((x.length : Int) - i).toNat, ⟨0, rfl, by omega, fun j hj => by omega⟩, ?_⟩
  rintro _ ⟨k, rfl, hk, hv⟩
  refine ⟨fun h2 => ?_, fun h2 => ?_⟩
  ·(simp only [decide_eq_true_eq, decide_eq_false_iff_not, Bool.not_eq_true', Bool.not_eq_false'] at h2)
   simp only [Int.toNat_natCast]
   refine ⟨⟨by omega⟩, ⟨by omega⟩, fun h3 => ?_, fun h3 => ⟨⟨by omega⟩, ⟨k + 1, by omega, by omega, fun j hj => ?_⟩, ⟨by ((try dsimp only); omega)⟩⟩⟩
   ·(simp only [decide_eq_true_eq, decide_eq_false_iff_not, Bool.not_eq_true', Bool.not_eq_false'] at h3)
    have : x ≠ y := fun e => h3 (by rw [e])
    simp [this]
   ·by_cases e : j = k
    ·subst e; simpa using h3
    ·exact hv j (by omega)
  ·(simp only [decide_eq_true_eq, decide_eq_false_iff_not, Bool.not_eq_true', Bool.not_eq_false'] at h2)
   have : x = y := same_lists h' fun j hj => hv j (by omega)
   simp [this]
theorem term_ev (p : Pl) (i : Int) : E 72 [.tv [] tPl p, iv i] [] (bv (decide (0 ≤ i) && decide (i < p.1.length))) [] := by
 obtain ⟨p0, p1, p2, p3, p4, p5, _⟩ := p
 refine ev_of (vc72 p0 p1 p2 p3 p4 p5 i _ ⟨fun h => ?_, fun h => ?_⟩)
 ·(simp only [decide_eq_true_eq, decide_eq_false_iff_not, Bool.not_eq_true', Bool.not_eq_false'] at h); simp [h]
 ·(simp only [decide_eq_true_eq, decide_eq_false_iff_not, Bool.not_eq_true', Bool.not_eq_false'] at h)
  have : ¬ 0 ≤ i := by omega
  simp [this]
abbrev pr0 : Prd := ((0 : Int), (([] : List Int), ((0 : Int), ())))
def fitsN (p : Pl) (l : List Th) (i : Int) : Bool :=
 if leafN l i = true then decide (0 < symN l i) && decide (symN l i < p.1.length)
 else if ruleN l i < 1 ∨ (p.2.2.1.length : Int) ≤ ruleN l i then false
 else decide ((p.2.2.1.getD (ruleN l i).toNat pr0).1 = symN l i) && decide ((kidsN l i).map (symN l) = (p.2.2.1.getD (ruleN l i).toNat pr0).2.1)
def rightN (p : Pl) (l : List Th) (i : Int) : Bool := decide (below l i ≠ []) && (below l i).all (fitsN p l)
theorem fits_ev (g : Nat) (l z : List Th) (cc a b c : Int) (p : Pl) (h : Tr l) (i : Int) : E 54 [.op (0, 0) [], .tv [] tPl p, iv i] (hT g l z cc a b c) (bv (fitsN p l i)) (hT g l z cc a b c) := by
 have ht := fun j => term_ev p j
 obtain ⟨p0, p1, p2, p3, p4, p5, _⟩ := p
 have hkl := h.kidsN i
 refine ev_of (vc54 p0 p1 p2 p3 p4 p5 i g (l ++ z) l.length cc a b c _ ?_)
 have cl := leaf_tv g l z cc a b c i
 cases hlf : leafN l i with
 | true =>
  rw [hlf] at cl
  ((repeat apply Exists.intro); refine And.intro (Need.mk (cl)) ?_)
  refine ⟨fun _ => ?_, nofun⟩
  ((repeat apply Exists.intro); refine And.intro (Need.mk (sym_tv g l z cc a b c i)) ?_)
  refine ⟨fun h2 => ?_, fun h2 => ?_⟩
  ·have h2' : 0 < symN l i := of_decide_eq_true h2
   ((repeat apply Exists.intro); refine And.intro (Need.mk (sym_tv g l z cc a b c i)) ?_)
   ((repeat apply Exists.intro); refine And.intro (Need.mk (ht (symN l i))) ?_)
   refine ⟨?_, rfl⟩
   have : 0 ≤ symN l i := by omega
   simp [fitsN, hlf, h2', this]
  ·have h2' : ¬ 0 < symN l i := of_decide_eq_false h2
   refine ⟨?_, rfl⟩
   simp [fitsN, hlf, h2']
 | false =>
  rw [hlf] at cl
  ((repeat apply Exists.intro); refine And.intro (Need.mk (cl)) ?_)
  refine ⟨nofun, fun _ => ?_⟩
  ((repeat apply Exists.intro); refine And.intro (Need.mk (rule_tv g l z cc a b c i)) ?_)
  refine ⟨fun h2 => ?_, fun h2 => ⟨fun h3 => ?_, fun h3 => ?_⟩⟩
  ·have h2' : ruleN l i < 1 := of_decide_eq_true h2
   exact ⟨by simp [fitsN, hlf, h2'], rfl⟩
  ·have h3' : (p2.length : Int) ≤ ruleN l i := of_decide_eq_true h3
   exact ⟨by simp [fitsN, hlf, h3'], rfl⟩
  ·have h2' : ¬ ruleN l i < 1 := of_decide_eq_false h2
   have h3' : ¬ (p2.length : Int) ≤ ruleN l i := of_decide_eq_false h3
   have hf : fitsN (p0, p1, p2, p3, p4, p5, ()) l i = (decide ((p2.getD (ruleN l i).toNat pr0).1 = symN l i) && decide ((kidsN l i).map (symN l) = (p2.getD (ruleN l i).toNat pr0).2.1)) := by
    unfold fitsN
    rw [if_neg (by simp [hlf]), if_neg (by simp only; omega)]
   refine And.intro (Need.mk (show 0 ≤ ruleN l i ∧ ruleN l i < (p2.length : Int) by omega)) ?_
   ((repeat apply Exists.intro); refine And.intro (Need.mk (sym_tv g l z cc a b c i)) ?_)
   refine ⟨fun h4 => ?_, fun h4 => ?_⟩
   ·have h4' : (p2.getD (ruleN l i).toNat pr0).1 ≠ symN l i := of_decide_eq_true h4
    exact ⟨by rw [hf]; simp only [h4', decide_false, Bool.false_and], rfl⟩
   ·have h4' : (p2.getD (ruleN l i).toNat pr0).1 = symN l i := by
     have := of_decide_eq_false h4
     exact Classical.not_not.1 this
    ((repeat apply Exists.intro); refine And.intro (Need.mk (kids_tv g l z cc a b c i hkl)) ?_)
    refine ⟨fun acc j γ m cc' a' b' c' γ' y => ∃ k : Nat, j = k ∧ k ≤ (kidsN l i).length ∧ acc = ((kidsN l i).take k).map (symN l) ∧ γ = (g : Int) ∧ m = (l.length : Int) ∧ cc' = cc ∧ a' = a ∧ b' = b ∧ c' = c ∧ γ' = (g : Int) ∧ y = l ++ z, fun _ j _ _ _ _ _ _ _ _ => (((kidsN l i).length : Int) - j).toNat, ⟨(by first | trivial | exact rfl | exact ⟨rfl, rfl⟩ | omega)⟩, ⟨0, rfl, by omega, by simp, (by first | trivial | exact rfl | exact ⟨rfl, rfl⟩ | omega), (by first | trivial | exact rfl | exact ⟨rfl, rfl⟩ | omega), (by first | trivial | exact rfl | exact ⟨rfl, rfl⟩ | omega), (by first | trivial | exact rfl | exact ⟨rfl, rfl⟩ | omega), (by first | trivial | exact rfl | exact ⟨rfl, rfl⟩ | omega), (by first | trivial | exact rfl | exact ⟨rfl, rfl⟩ | omega), (by first | trivial | exact rfl | exact ⟨rfl, rfl⟩ | omega), (by first | trivial | exact rfl | exact ⟨rfl, rfl⟩ | omega)⟩, ?_⟩
    rintro _ _ _ _ cc a b c _ _ ⟨k, rfl, hk, rfl, rfl, rfl, e1, e2, e3, e4, rfl, rfl⟩
    subst e1 e2 e3 e4
    refine ⟨fun h5 => ?_, fun h5 => ?_⟩
    ·have h5' : (k : Int) < ((kidsN l i).length : Int) := of_decide_eq_true h5
     have hk' : k < (kidsN l i).length := by omega
     refine And.intro (Need.mk ⟨by omega, h5'⟩) ?_
     ((repeat apply Exists.intro); refine And.intro (Need.mk (sym_tv g l z cc a b c ((kidsN l i).getD k 0))) ?_)
     refine ⟨⟨by simp only [List.length_map, List.length_take, List.length_cons, List.length_nil, bigN]; omega⟩, ⟨by omega⟩, ⟨(by first | trivial | exact rfl | exact ⟨rfl, rfl⟩ | omega)⟩, ⟨k + 1, by omega, by omega, ?_, (by first | trivial | exact rfl | exact ⟨rfl, rfl⟩ | omega), (by first | trivial | exact rfl | exact ⟨rfl, rfl⟩ | omega), (by first | trivial | exact rfl | exact ⟨rfl, rfl⟩ | omega), (by first | trivial | exact rfl | exact ⟨rfl, rfl⟩ | omega), (by first | trivial | exact rfl | exact ⟨rfl, rfl⟩ | omega), (by first | trivial | exact rfl | exact ⟨rfl, rfl⟩ | omega), (by first | trivial | exact rfl | exact ⟨rfl, rfl⟩ | omega), (by first | trivial | exact rfl | exact ⟨rfl, rfl⟩ | omega)⟩, ⟨by ((try dsimp only); omega)⟩⟩
     rw [take_snoc (0 : Int) hk', List.map_append]; rfl
    ·have h5' : ¬ (k : Int) < ((kidsN l i).length : Int) := of_decide_eq_false h5
     have : k = (kidsN l i).length := by omega
     subst this
     rw [List.take_length]
     refine And.intro (Need.mk (show 0 ≤ ruleN l i ∧ ruleN l i < (p2.length : Int) by omega)) ?_
     ((repeat apply Exists.intro); refine And.intro (Need.mk (equal_ev ((kidsN l i).map (symN l)) (p2.getD (ruleN l i).toNat pr0).2.1 (by rw [List.length_map]; omega))) ?_)
     refine ⟨?_, (by first | trivial | exact rfl | exact ⟨rfl, rfl⟩ | omega)⟩
     rw [hf]
     simp only [h4', decide_true, Bool.true_and]
end Go.Am.T
