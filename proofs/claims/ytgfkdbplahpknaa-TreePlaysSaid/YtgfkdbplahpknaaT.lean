/-
  A part of the proof of a law: see the text that states it.
-/
import Derived.Test.YtgfkdbplahpknaaR
import Derived.Test.YtgfkdbplahpknaaVcJ
set_option linter.all false
namespace Go.Am.T
open Go
set_option maxRecDepth 100000
theorem same_lists {a b : List Int} (h : a.length = b.length) (hk : ∀ k, k < a.length → a.getD k 0 = b.getD k 0) : a = b := by
 refine List.ext_getElem h fun i h1 h2 => ?_
 have := hk i h1
 rwa [List.getD_eq_getElem?_getD, List.getD_eq_getElem?_getD, List.getElem?_eq_getElem h1, List.getElem?_eq_getElem h2] at this
theorem ints_ev (x y : List Int) (hl : x.length ≤ 1000000) : E 15 [lv x, lv y] [] (bv (decide (x = y))) [] := by
 refine ev_of (vc15 x y _ ⟨fun h => ?_, fun h => ?_⟩)
 ·(simp only [decide_eq_true_eq, decide_eq_false_iff_not, Bool.not_eq_true', Bool.not_eq_false'] at h)
  have : x ≠ y := fun e => h (by rw [e])
  simp [this]
 ·have h' : x.length = y.length := by simp at h; omega
  refine ⟨fun i => ∃ k : Nat, i = k ∧ k ≤ x.length ∧ ∀ j, j < k → x.getD j 0 = y.getD j 0, fun i => ((x.length : Int) - i).toNat, ⟨0, rfl, by omega, fun j hj => by omega⟩, ?_⟩
  rintro _ ⟨k, rfl, hk, hv⟩
  refine ⟨fun h2 => ?_, fun h2 => ?_⟩
  ·(simp only [decide_eq_true_eq, decide_eq_false_iff_not, Bool.not_eq_true', Bool.not_eq_false'] at h2)
   simp only [Int.toNat_natCast]
   refine ⟨⟨by omega⟩, ⟨by omega⟩, fun h3 => ?_, fun h3 => ⟨⟨by omega⟩, ⟨k + 1, by omega, by omega, fun j hj => ?_⟩, ⟨by ((try dsimp only); omega)⟩⟩⟩
   ·(simp only [decide_eq_true_eq, decide_eq_false_iff_not, Bool.not_eq_true', Bool.not_eq_false'] at h3)
    have : x ≠ y := fun e => h3 (by rw [e])
    simp [this]
   ·by_cases e : j = k
    ·subst e; simpa using h3
    ·exact hv j (by omega)
  ·(simp only [decide_eq_true_eq, decide_eq_false_iff_not, Bool.not_eq_true', Bool.not_eq_false'] at h2)
   have : x = y := same_lists h' fun j hj => hv j (by omega)
   simp [this]
theorem equal_ev (x y : List Int) (hl : x.length ≤ 1000000) : E 73 [lv x, lv y] [] (bv (decide (x = y))) [] := by
 refine ev_of (vc73 x y _ ⟨fun h => ?_, fun h => ?_⟩)
 ·(simp only [decide_eq_true_eq, decide_eq_false_iff_not, Bool.not_eq_true', Bool.not_eq_false'] at h)
  have : x ≠ y := fun e => h (by rw [e])
  simp [this]
 ·have h' : x.length = y.length := by simp at h; omega
  refine ⟨fun i => ∃ k : Nat, i = k ∧ k ≤ x.length ∧ ∀ j, j < k → x.getD j 0 = y.getD j 0, fun i => ((x.length : Int) - i).toNat, ⟨0, rfl, by omega, fun j hj => by omega⟩, ?_⟩
  rintro _ ⟨k, rfl, hk, hv⟩
  refine ⟨fun h2 => ?_, fun h2 => ?_⟩
  ·(simp only [decide_eq_true_eq, decide_eq_false_iff_not, Bool.not_eq_true', Bool.not_eq_false'] at h2)
   simp only [Int.toNat_natCast]
   refine ⟨⟨by omega⟩, ⟨by omega⟩, fun h3 => ?_, fun h3 => ⟨⟨by omega⟩, ⟨k + 1, by omega, by omega, fun j hj => ?_⟩, ⟨by ((try dsimp only); omega)⟩⟩⟩
   ·(simp only [decide_eq_true_eq, decide_eq_false_iff_not, Bool.not_eq_true', Bool.not_eq_false'] at h3)
    have : x ≠ y := fun e => h3 (by rw [e])
    simp [this]
   ·by_cases e : j = k
    ·subst e; simpa using h3
    ·exact hv j (by omega)
  ·(simp only [decide_eq_true_eq, decide_eq_false_iff_not, Bool.not_eq_true', Bool.not_eq_false'] at h2)
   have : x = y := same_lists h' fun j hj => hv j (by omega)
   simp [this]
theorem term_ev (p : Pl) (i : Int) : E 72 [.tv [] tPl p, iv i] [] (bv (decide (0 ≤ i) && decide (i < p.1.length))) [] := by
 obtain ⟨p0, p1, p2, p3, p4, p5, _⟩ := p
 refine ev_of (vc72 p0 p1 p2 p3 p4 p5 i _ ⟨fun h => ?_, fun h => ?_⟩)
 ·(simp only [decide_eq_true_eq, decide_eq_false_iff_not, Bool.not_eq_true', Bool.not_eq_false'] at h); simp [h]
 ·(simp only [decide_eq_true_eq, decide_eq_false_iff_not, Bool.not_eq_true', Bool.not_eq_false'] at h)
  have : ¬ 0 ≤ i := by omega
  simp [this]
abbrev pr0 : Prd := ((0 : Int), (([] : List Int), ((0 : Int), ())))
def fitsN (p : Pl) (l : List Th) (i : Int) : Bool :=
 if leafN l i = true then decide (0 < symN l i) && decide (symN l i < p.1.length)
 else if ruleN l i < 1 ∨ (p.2.2.1.length : Int) ≤ ruleN l i then false
 else decide ((p.2.2.1.getD (ruleN l i).toNat pr0).1 = symN l i) && decide ((kidsN l i).map (symN l) = (p.2.2.1.getD (ruleN l i).toNat pr0).2.1)
def rightN (p : Pl) (l : List Th) (i : Int) : Bool := decide (below l i ≠ []) && (below l i).all (fitsN p l)
theorem fits_ev (g : Nat) (l z : List Th) (cc a b c : Int) (p : Pl) (h : Tr l) (i : Int) : E 54 [.op (0, 0) [], .tv [] tPl p, iv i] (hT g l z cc a b c) (bv (fitsN p l i)) (hT g l z cc a b c) := by
 have ht := fun j => term_ev p j
 obtain ⟨p0, p1, p2, p3, p4, p5, _⟩ := p
 have hkl := h.kidsN i
 refine ev_of (vc54 p0 p1 p2 p3 p4 p5 i g (l ++ z) l.length cc a b c _ ?_)
 have cl := leaf_tv g l z cc a b c i
 cases hlf : leafN l i with
 | true =>
  rw [hlf] at cl
  ((repeat apply Exists.intro); refine And.intro (Need.mk (cl)) ?_)
  refine ⟨fun _ => ?_, nofun⟩
  ((repeat apply Exists.intro); refine And.intro (Need.mk (sym_tv g l z cc a b c i)) ?_)
  refine ⟨fun h2 => ?_, fun h2 => ?_⟩
  ·have h2' : 0 < symN l i := of_decide_eq_true h2
   ((repeat apply Exists.intro); refine And.intro (Need.mk (sym_tv g l z cc a b c i)) ?_)
   ((repeat apply Exists.intro); refine And.intro (Need.mk (ht (symN l i))) ?_)
   refine ⟨?_, rfl⟩
   have : 0 ≤ symN l i := by omega
   simp [fitsN, hlf, h2', this]
  ·have h2' : ¬ 0 < symN l i := of_decide_eq_false h2
   refine ⟨?_, rfl⟩
   simp [fitsN, hlf, h2']
 | false =>
  rw [hlf] at cl
  ((repeat apply Exists.intro); refine And.intro (Need.mk (cl)) ?_)
  refine ⟨nofun, fun _ => ?_⟩
  ((repeat apply Exists.intro); refine And.intro (Need.mk (rule_tv g l z cc a b c i)) ?_)
  refine ⟨fun h2 => ?_, fun h2 => ⟨fun h3 => ?_, fun h3 => ?_⟩⟩
  ·have h2' : ruleN l i < 1 := of_decide_eq_true h2
   exact ⟨by simp [fitsN, hlf, h2'], rfl⟩
  ·have h3' : (p2.length : Int) ≤ ruleN l i := of_decide_eq_true h3
   exact ⟨by simp [fitsN, hlf, h3'], rfl⟩
  ·have h2' : ¬ ruleN l i < 1 := of_decide_eq_false h2
   have h3' : ¬ (p2.length : Int) ≤ ruleN l i := of_decide_eq_false h3
   have hf : fitsN (p0, p1, p2, p3, p4, p5, ()) l i = (decide ((p2.getD (ruleN l i).toNat pr0).1 = symN l i) && decide ((kidsN l i).map (symN l) = (p2.getD (ruleN l i).toNat pr0).2.1)) := by
    unfold fitsN
    rw [if_neg (by simp [hlf]), if_neg (by simp only; omega)]
   refine And.intro (Need.mk (show 0 ≤ ruleN l i ∧ ruleN l i < (p2.length : Int) by omega)) ?_
   ((repeat apply Exists.intro); refine And.intro (Need.mk (sym_tv g l z cc a b c i)) ?_)
   refine ⟨fun h4 => ?_, fun h4 => ?_⟩
   ·have h4' : (p2.getD (ruleN l i).toNat pr0).1 ≠ symN l i := of_decide_eq_true h4
    exact ⟨by rw [hf]; simp only [h4', decide_false, Bool.false_and], rfl⟩
   ·have h4' : (p2.getD (ruleN l i).toNat pr0).1 = symN l i := by
     have := of_decide_eq_false h4
     exact Classical.not_not.1 this
    ((repeat apply Exists.intro); refine And.intro (Need.mk (kids_tv g l z cc a b c i hkl)) ?_)
    refine ⟨fun acc j γ m cc' a' b' c' γ' y => ∃ k : Nat, j = k ∧ k ≤ (kidsN l i).length ∧ acc = ((kidsN l i).take k).map (symN l) ∧ γ = (g : Int) ∧ m = (l.length : Int) ∧ cc' = cc ∧ a' = a ∧ b' = b ∧ c' = c ∧ γ' = (g : Int) ∧ y = l ++ z, fun _ j _ _ _ _ _ _ _ _ => (((kidsN l i).length : Int) - j).toNat, ⟨(by first | trivial | exact rfl | exact ⟨rfl, rfl⟩ | omega)⟩, ⟨0, rfl, by omega, by simp, (by first | trivial | exact rfl | exact ⟨rfl, rfl⟩ | omega), (by first | trivial | exact rfl | exact ⟨rfl, rfl⟩ | omega), (by first | trivial | exact rfl | exact ⟨rfl, rfl⟩ | omega), (by first | trivial | exact rfl | exact ⟨rfl, rfl⟩ | omega), (by first | trivial | exact rfl | exact ⟨rfl, rfl⟩ | omega), (by first | trivial | exact rfl | exact ⟨rfl, rfl⟩ | omega), (by first | trivial | exact rfl | exact ⟨rfl, rfl⟩ | omega), (by first | trivial | exact rfl | exact ⟨rfl, rfl⟩ | omega)⟩, ?_⟩
    rintro _ _ _ _ cc a b c _ _ ⟨k, rfl, hk, rfl, rfl, rfl, e1, e2, e3, e4, rfl, rfl⟩
    subst e1 e2 e3 e4
    refine ⟨fun h5 => ?_, fun h5 => ?_⟩
    ·have h5' : (k : Int) < ((kidsN l i).length : Int) := of_decide_eq_true h5
     have hk' : k < (kidsN l i).length := by omega
     refine And.intro (Need.mk ⟨by omega, h5'⟩) ?_
     ((repeat apply Exists.intro); refine And.intro (Need.mk (sym_tv g l z cc a b c ((kidsN l i).getD k 0))) ?_)
     refine ⟨⟨by simp only [List.length_map, List.length_take, List.length_cons, List.length_nil, bigN]; omega⟩, ⟨by omega⟩, ⟨(by first | trivial | exact rfl | exact ⟨rfl, rfl⟩ | omega)⟩, ⟨k + 1, by omega, by omega, ?_, (by first | trivial | exact rfl | exact ⟨rfl, rfl⟩ | omega), (by first | trivial | exact rfl | exact ⟨rfl, rfl⟩ | omega), (by first | trivial | exact rfl | exact ⟨rfl, rfl⟩ | omega), (by first | trivial | exact rfl | exact ⟨rfl, rfl⟩ | omega), (by first | trivial | exact rfl | exact ⟨rfl, rfl⟩ | omega), (by first | trivial | exact rfl | exact ⟨rfl, rfl⟩ | omega), (by first | trivial | exact rfl | exact ⟨rfl, rfl⟩ | omega), (by first | trivial | exact rfl | exact ⟨rfl, rfl⟩ | omega)⟩, ⟨by ((try dsimp only); omega)⟩⟩
     rw [take_snoc (0 : Int) hk', List.map_append]; rfl
    ·have h5' : ¬ (k : Int) < ((kidsN l i).length : Int) := of_decide_eq_false h5
     have : k = (kidsN l i).length := by omega
     subst this
     rw [List.take_length]
     refine And.intro (Need.mk (show 0 ≤ ruleN l i ∧ ruleN l i < (p2.length : Int) by omega)) ?_
     ((repeat apply Exists.intro); refine And.intro (Need.mk (equal_ev ((kidsN l i).map (symN l)) (p2.getD (ruleN l i).toNat pr0).2.1 (by rw [List.length_map]; omega))) ?_)
     refine ⟨?_, (by first | trivial | exact rfl | exact ⟨rfl, rfl⟩ | omega)⟩
     rw [hf]
     simp only [h4', decide_true, Bool.true_and]
end Go.Am.T
namespace Go.Am.T
open Go
set_option maxRecDepth 100000
abbrev hC (p : Pl) (g : Nat) (l z : List Th) (cc a b c : Int) : Heap := [((0, 0), ⟨⟨.ref, (some (0, 2) : Option Key)⟩, []⟩), ((0, 1), ⟨⟨tPl, p⟩, []⟩), oT (0, 2) (0, 3), oA (0, 3) (0, 4) (0, 5) g l.length cc, oM (0, 4) a b c, oL (0, 5) g (l ++ z)]
abbrev fn53 : AV := .fn 53 [] [.op (0, 0) [], .op (0, 1) []]
theorem fn53_ev (p : Pl) (g : Nat) (l z : List Th) (cc a b c : Int) (h : Tr l) (i : Int) : E 53 [iv i, .op (0, 0) [], .op (0, 1) []] (hC p g l z cc a b c) (bv (!fitsN p l i)) (hC p g l z cc a b c) := by
 have hf := fits_ev g l z cc a b c p h i
 obtain ⟨p0, p1, p2, p3, p4, p5, _⟩ := p
 refine ev_of (vc53 i p0 p1 p2 p3 p4 p5 g (l ++ z) l.length cc a b c _ ?_)
 ((repeat apply Exists.intro); refine And.intro (Need.mk (hf)) ?_)
 exact ⟨rfl, rfl⟩
theorem find_ev (p : Pl) (g : Nat) (l z : List Th) (cc a b c : Int) (h : Tr l) (ks : List Int) (hk : ks.length ≤ 1000) : ∃ n : Int, (0 ≤ n ↔ ks.all (fitsN p l) = false) ∧ E 71 [lv ks, fn53] (hC p g l z cc a b c) (iv n) (hC p g l z cc a b c) := by
 have hf := fun i => fn53_ev p g l z cc a b c h i
 obtain ⟨p0, p1, p2, p3, p4, p5, _⟩ := p
 have key : EvF PP orc 71 [lv ks, fn53] (hC (p0, p1, p2, p3, p4, p5, ()) g l z cc a b c) fun v h => ∃ n : Int, (0 ≤ n ↔ ks.all (fitsN (p0, p1, p2, p3, p4, p5, ()) l) = false) ∧ v = iv n ∧ h = hC (p0, p1, p2, p3, p4, p5, ()) g l z cc a b c := by
  refine vc71 ks p0 p1 p2 p3 p4 p5 g (l ++ z) l.length cc a b c _ ?_
  refine ⟨fun i q0 q1 q2 q3 q4 q5 γ m cc' a' b' c' γ' y => ∃ k : Nat, i = k ∧ k ≤ ks.length ∧ (ks.take k).all (fitsN (p0, p1, p2, p3, p4, p5, ()) l) = true ∧ q0 = p0 ∧ q1 = p1 ∧ q2 = p2 ∧ q3 = p3 ∧ q4 = p4 ∧ q5 = p5 ∧ γ = (g : Int) ∧ m = (l.length : Int) ∧ cc' = cc ∧ a' = a ∧ b' = b ∧ c' = c ∧ γ' = (g : Int) ∧ y = l ++ z, fun i _ _ _ _ _ _ _ _ _ _ _ _ _ _ => ((ks.length : Int) - i).toNat, ⟨(by first | trivial | exact rfl | exact ⟨rfl, rfl⟩ | omega)⟩, ⟨0, rfl, by omega, rfl, (by first | trivial | exact rfl | exact ⟨rfl, rfl⟩ | omega), (by first | trivial | exact rfl | exact ⟨rfl, rfl⟩ | omega), (by first | trivial | exact rfl | exact ⟨rfl, rfl⟩ | omega), (by first | trivial | exact rfl | exact ⟨rfl, rfl⟩ | omega), (by first | trivial | exact rfl | exact ⟨rfl, rfl⟩ | omega), (by first | trivial | exact rfl | exact ⟨rfl, rfl⟩ | omega), (by first | trivial | exact rfl | exact ⟨rfl, rfl⟩ | omega), (by first | trivial | exact rfl | exact ⟨rfl, rfl⟩ | omega), (by first | trivial | exact rfl | exact ⟨rfl, rfl⟩ | omega), (by first | trivial | exact rfl | exact ⟨rfl, rfl⟩ | omega), (by first | trivial | exact rfl | exact ⟨rfl, rfl⟩ | omega), (by first | trivial | exact rfl | exact ⟨rfl, rfl⟩ | omega), (by first | trivial | exact rfl | exact ⟨rfl, rfl⟩ | omega), (by first | trivial | exact rfl | exact ⟨rfl, rfl⟩ | omega)⟩, ?_⟩
  rintro _ p0 p1 p2 p3 p4 p5 _ _ cc a b c _ _ ⟨k, rfl, hk1, hall, e1, e2, e3, e4, e5, e6, rfl, rfl, e7, e8, e9, e10, rfl, rfl⟩
  subst e1 e2 e3 e4 e5 e6 e7 e8 e9 e10
  refine ⟨fun h1 => ?_, fun h1 => ?_⟩
  ·(simp only [decide_eq_true_eq, decide_eq_false_iff_not, Bool.not_eq_true', Bool.not_eq_false'] at h1)
   have hk' : k < ks.length := by omega
   refine And.intro (Need.mk ⟨by omega, by omega⟩) ?_
   have c1 := hf (ks.getD k 0)
   cases hv : fitsN (p0, p1, p2, p3, p4, p5, ()) l (ks.getD k 0) with
   | true =>
    rw [hv] at c1
    ((repeat apply Exists.intro); refine And.intro (Need.mk (c1)) ?_)
    refine ⟨nofun, fun _ => ⟨⟨by omega⟩, ⟨(by first | trivial | exact rfl | exact ⟨rfl, rfl⟩ | omega)⟩, ⟨k + 1, by omega, by omega, ?_, (by first | trivial | exact rfl | exact ⟨rfl, rfl⟩ | omega), (by first | trivial | exact rfl | exact ⟨rfl, rfl⟩ | omega), (by first | trivial | exact rfl | exact ⟨rfl, rfl⟩ | omega), (by first | trivial | exact rfl | exact ⟨rfl, rfl⟩ | omega), (by first | trivial | exact rfl | exact ⟨rfl, rfl⟩ | omega), (by first | trivial | exact rfl | exact ⟨rfl, rfl⟩ | omega), (by first | trivial | exact rfl | exact ⟨rfl, rfl⟩ | omega), (by first | trivial | exact rfl | exact ⟨rfl, rfl⟩ | omega), (by first | trivial | exact rfl | exact ⟨rfl, rfl⟩ | omega), (by first | trivial | exact rfl | exact ⟨rfl, rfl⟩ | omega), (by first | trivial | exact rfl | exact ⟨rfl, rfl⟩ | omega), (by first | trivial | exact rfl | exact ⟨rfl, rfl⟩ | omega), (by first | trivial | exact rfl | exact ⟨rfl, rfl⟩ | omega), (by first | trivial | exact rfl | exact ⟨rfl, rfl⟩ | omega)⟩, ⟨by ((try dsimp only); omega)⟩⟩⟩
    rw [take_snoc (0 : Int) hk', List.all_append, hall]
    simp only [List.all_cons, List.all_nil, hv, Bool.and_self]
   | false =>
    rw [hv] at c1
    ((repeat apply Exists.intro); refine And.intro (Need.mk (c1)) ?_)
    refine ⟨fun _ => ⟨k, ⟨fun _ => ?_, fun _ => by omega⟩, (by first | trivial | exact rfl | exact ⟨rfl, rfl⟩ | omega), (by first | trivial | exact rfl | exact ⟨rfl, rfl⟩ | omega)⟩, nofun⟩
    rw [List.all_eq_false]
    exact ⟨_, getD_mem' (0 : Int) hk', by rw [hv]; decide⟩
  ·(simp only [decide_eq_true_eq, decide_eq_false_iff_not, Bool.not_eq_true', Bool.not_eq_false'] at h1)
   have : k = ks.length := by omega
   subst this
   rw [List.take_length] at hall
   exact ⟨-1, ⟨fun h => by omega, fun h => by rw [hall] at h; cases h⟩, (by first | trivial | exact rfl | exact ⟨rfl, rfl⟩ | omega), (by first | trivial | exact rfl | exact ⟨rfl, rfl⟩ | omega)⟩
 obtain ⟨v, h', e, n, hn, rfl, rfl⟩ := key
 exact ⟨n, hn, e⟩
theorem any_ev (p : Pl) (g : Nat) (l z : List Th) (cc a b c : Int) (h : Tr l) (ks : List Int) (hk : ks.length ≤ 1000) : E 52 [lv ks, fn53] (hC p g l z cc a b c) (bv (!ks.all (fitsN p l))) (hC p g l z cc a b c) := by
 obtain ⟨n, hn, e⟩ := find_ev p g l z cc a b c h ks hk
 obtain ⟨p0, p1, p2, p3, p4, p5, _⟩ := p
 refine ev_of (vc52 ks p0 p1 p2 p3 p4 p5 g (l ++ z) l.length cc a b c _ ?_)
 ((repeat apply Exists.intro); refine And.intro (Need.mk (e)) ?_)
 refine ⟨?_, rfl⟩
 have : decide ((0 : Int) ≤ n) = !ks.all (fitsN (p0, p1, p2, p3, p4, p5, ()) l) := by
  rw [Bool.eq_iff_iff]
  simp only [decide_eq_true_eq, Bool.not_eq_true']
  exact hn
 rw [this]
theorem tright_ev (p : Pl) (g : Nat) (l z : List Th) (cc a b c : Int) (h : Tr l) (hl : l.length ≤ 1000) (i : Int) : E 25 [.op (0, 0) [], .tv [] tPl p, iv i] (hT g l z cc a b c) (bv (rightN p l i)) (hT g l z cc a b c) := by
 have ha := any_ev p g l z cc a b c h (below l i) (by have := tr_size h i; omega)
 obtain ⟨p0, p1, p2, p3, p4, p5, _⟩ := p
 refine ev_of (vc25 p0 p1 p2 p3 p4 p5 i g (l ++ z) l.length cc a b c _ ?_)
 ((repeat apply Exists.intro); refine And.intro (Need.mk (below_ev g l z cc a b c h hl i)) ?_)
 refine ⟨fun h1 => ?_, fun h1 => ?_⟩
 ·(simp only [decide_eq_true_eq, decide_eq_false_iff_not, Bool.not_eq_true', Bool.not_eq_false'] at h1)
  ((repeat apply Exists.intro); refine And.intro (Need.mk (ha)) ?_)
  refine ⟨?_, rfl⟩
  have : below l i ≠ [] := fun e => by rw [e] at h1; simp at h1
  simp [rightN, this]
 ·(simp only [decide_eq_true_eq, decide_eq_false_iff_not, Bool.not_eq_true', Bool.not_eq_false'] at h1)
  have : below l i = [] := List.length_eq_zero_iff.1 (by omega)
  exact ⟨by simp [rightN, this], rfl⟩
end Go.Am.T
