/-
  A part of the proof of a law: see the text that states it.
-/
import Derived.Test.YtgfkdbplahpknaaS
set_option linter.all false
namespace Go.Am.T
open Go
set_option maxRecDepth 100000
abbrev hC (p : Pl) (g : Nat) (l z : List Th) (cc a b c : Int) : Heap := [((0, 0), ⟨⟨.ref, (some (0, 2) : Option Key)⟩, []⟩), ((0, 1), ⟨⟨tPl, p⟩, []⟩), oT (0, 2) (0, 3), oA (0, 3) (0, 4) (0, 5) g l.length cc, oM (0, 4) a b c, oL (0, 5) g (l ++ z)]
abbrev fn53 : AV := .fn 53 [] [.op (0, 0) [], .op (0, 1) []]
theorem fn53_ev (p : Pl) (g : Nat) (l z : List Th) (cc a b c : Int) (h : Tr l) (i : Int) : E 53 [iv i, .op (0, 0) [], .op (0, 1) []] (hC p g l z cc a b c) (bv (!fitsN p l i)) (hC p g l z cc a b c) := by
 have hf := fits_ev g l z cc a b c p h i
 obtain ⟨p0, p1, p2, p3, p4, p5, _⟩ := p
 refine ev_of (vc53 i p0 p1 p2 p3 p4 p5 g (l ++ z) l.length cc a b c _ ?_)
 ((repeat apply Exists.intro); refine And.intro (Need.mk (hf)) ?_)
 exact ⟨rfl, rfl⟩
theorem find_ev (p : Pl) (g : Nat) (l z : List Th) (cc a b c : Int) (h : Tr l) (ks : List Int) (hk : ks.length ≤ 1000) : ∃ n : Int, (0 ≤ n ↔ ks.all (fitsN p l) = false) ∧ E 71 [lv ks, fn53] (hC p g l z cc a b c) (iv n) (hC p g l z cc a b c) := by
 have hf := fun i => fn53_ev p g l z cc a b c h i
 obtain ⟨p0, p1, p2, p3, p4, p5, _⟩ := p
 have key : EvF PP orc 71 [lv ks, fn53] (hC (p0, p1, p2, p3, p4, p5, ()) g l z cc a b c) fun v h => ∃ n : Int, (0 ≤ n ↔ ks.all (fitsN (p0, p1, p2, p3, p4, p5, ()) l) = false) ∧ v = iv n ∧ h = hC (p0, p1, p2, p3, p4, p5, ()) g l z cc a b c := by
  refine vc71 ks p0 p1 p2 p3 p4 p5 g (l ++ z) l.length cc a b c _ ?_
  refine ⟨fun i q0 q1 q2 q3 q4 q5 γ m cc' a' b' c' γ' y => ∃ k : Nat, i = k ∧ k ≤ ks.length ∧ (ks.take k).all (fitsN (p0, p1, p2, p3, p4, p5, ()) l) = true ∧ q0 = p0 ∧ q1 = p1 ∧ q2 = p2 ∧ q3 = p3 ∧ q4 = p4 ∧ q5 = p5 ∧ γ = (g : Int) ∧ m = (l.length : Int) ∧ cc' = cc ∧ a' = a ∧ b' = b ∧ c' = c ∧ γ' = (g : Int) ∧ y = l ++ z, fun i _ _ _ _ _ _ _ _ _ _ _ _ _ _ => ((ks.length : Int) - i).toNat, ⟨(by first | trivial | exact rfl | exact ⟨rfl, rfl⟩ | omega)⟩, ⟨0, rfl, by omega, rfl, (by first | trivial | exact rfl | exact ⟨rfl, rfl⟩ | omega), (by first | trivial | exact rfl | exact ⟨rfl, rfl⟩ | omega), (by first | trivial | exact rfl | exact ⟨rfl, rfl⟩ | omega), (by first | trivial | exact rfl | exact ⟨rfl, rfl⟩ | omega), (by first | trivial | exact rfl | exact ⟨rfl, rfl⟩ | omega), (by first | trivial | exact rfl | exact ⟨rfl, rfl⟩ | omega), (by first | trivial | exact rfl | exact ⟨rfl, rfl⟩ | omega), (by first | trivial | exact rfl | exact ⟨rfl, rfl⟩ | omega), (by first | trivial | exact rfl | exact ⟨rfl, rfl⟩ | omega), (by first | trivial | exact rfl | exact ⟨rfl, rfl⟩ | omega), (by first | trivial | exact rfl | exact ⟨rfl, rfl⟩ | omega), (by first | trivial | exact rfl | exact ⟨rfl, rfl⟩ | omega), (by first | trivial | exact rfl | exact ⟨rfl, rfl⟩ | omega), (by first | trivial | exact rfl | exact ⟨rfl, rfl⟩ | omega)⟩, ?_⟩
  rintro _ p0 p1 p2 p3 p4 p5 _ _ cc a b c _ _ ⟨k, rfl, hk1, hall, e1, e2, e3, e4, e5, e6, rfl, rfl, e7, e8, e9, e10, rfl, rfl⟩
  subst e1 e2 e3 e4 e5 e6 e7 e8 e9 e10
  refine ⟨fun h1 => ?_, fun h1 => ?_⟩
  ·(simp only [decide_eq_true_eq, decide_eq_false_iff_not, Bool.not_eq_true', Bool.not_eq_false'] at h1)
   have hk' : k < ks.length := by omega
   refine And.intro (Need.mk ⟨by omega, by omega⟩) ?_
   have c1 := hf (ks.getD k 0)
   cases hv : fitsN (p0, p1, p2, p3, p4, p5, ()) l (ks.getD k 0) with
   | true =>
    rw [hv] at c1
    ((repeat apply Exists.intro); refine And.intro (Need.mk (c1)) ?_)
    refine ⟨nofun, fun _ => ⟨⟨by omega⟩, ⟨(by first | trivial | exact rfl | exact ⟨rfl, rfl⟩ | omega)⟩, ⟨k + 1, by omega, by omega, ?_, (by first | trivial | exact rfl | exact ⟨rfl, rfl⟩ | omega), (by first | trivial | exact rfl | exact ⟨rfl, rfl⟩ | omega), (by first | trivial | exact rfl | exact ⟨rfl, rfl⟩ | omega), (by first | trivial | exact rfl | exact ⟨rfl, rfl⟩ | omega), (by first | trivial | exact rfl | exact ⟨rfl, rfl⟩ | omega), (by first | trivial | exact rfl | exact ⟨rfl, rfl⟩ | omega), (by first | trivial | exact rfl | exact ⟨rfl, rfl⟩ | omega), (by first | trivial | exact rfl | exact ⟨rfl, rfl⟩ | omega), (by first | trivial | exact rfl | exact ⟨rfl, rfl⟩ | omega), (by first | trivial | exact rfl | exact ⟨rfl, rfl⟩ | omega), (by first | trivial | exact rfl | exact ⟨rfl, rfl⟩ | omega), (by first | trivial | exact rfl | exact ⟨rfl, rfl⟩ | omega), (by first | trivial | exact rfl | exact ⟨rfl, rfl⟩ | omega), (by first | trivial | exact rfl | exact ⟨rfl, rfl⟩ | omega)⟩, ⟨by ((try dsimp only); omega)⟩⟩⟩
    rw [take_snoc (0 : Int) hk', List.all_append, hall]
    simp only [List.all_cons, List.all_nil, hv, Bool.and_self]
   | false =>
    rw [hv] at c1
    ((repeat apply Exists.intro); refine And.intro (Need.mk (c1)) ?_)
    refine ⟨fun _ => ⟨k, ⟨fun _ => ?_, fun _ => by omega⟩, (by first | trivial | exact rfl | exact ⟨rfl, rfl⟩ | omega), (by first | trivial | exact rfl | exact ⟨rfl, rfl⟩ | omega)⟩, nofun⟩
    rw [List.all_eq_false]
    exact ⟨_, getD_mem' (0 : Int) hk', by rw [hv]; decide⟩
  ·(simp only [decide_eq_true_eq, decide_eq_false_iff_not, Bool.not_eq_true', Bool.not_eq_false'] at h1)
   have : k = ks.length := by omega
   subst this
   rw [List.take_length] at hall
   exact ⟨-1, ⟨fun h => by omega, fun h => by rw [hall] at h; cases h⟩, (by first | trivial | exact rfl | exact ⟨rfl, rfl⟩ | omega), (by first | trivial | exact rfl | exact ⟨rfl, rfl⟩ | omega)⟩
 obtain ⟨v, h', e, n, hn, rfl, rfl⟩ := key
 exact ⟨n, hn, e⟩
theorem any_ev (p : Pl) (g : Nat) (l z : List Th) (cc a b c : Int) (h : Tr l) (ks : List Int) (hk : ks.length ≤ 1000) : E 52 [lv ks, fn53] (hC p g l z cc a b c) (bv (!ks.all (fitsN p l))) (hC p g l z cc a b c) := by
 obtain ⟨n, hn, e⟩ := find_ev p g l z cc a b c h ks hk
 obtain ⟨p0, p1, p2, p3, p4, p5, _⟩ := p
 refine ev_of (vc52 ks p0 p1 p2 p3 p4 p5 g (l ++ z) l.length cc a b c _ ?_)
 ((repeat apply Exists.intro); refine And.intro (Need.mk (e)) ?_)
 refine ⟨?_, rfl⟩
 have : decide ((0 : Int) ≤ n) = !ks.all (fitsN (p0, p1, p2, p3, p4, p5, ()) l) := by
  rw [Bool.eq_iff_iff]
  simp only [decide_eq_true_eq, Bool.not_eq_true']
  exact hn
 rw [this]
theorem tright_ev (p : Pl) (g : Nat) (l z : List Th) (cc a b c : Int) (h : Tr l) (hl : l.length ≤ 1000) (i : Int) : E 25 [.op (0, 0) [], .tv [] tPl p, iv i] (hT g l z cc a b c) (bv (rightN p l i)) (hT g l z cc a b c) := by
 have ha := any_ev p g l z cc a b c h (below l i) (by have := tr_size h i; omega)
 obtain ⟨p0, p1, p2, p3, p4, p5, _⟩ := p
 refine ev_of (vc25 p0 p1 p2 p3 p4 p5 i g (l ++ z) l.length cc a b c _ ?_)
 ((repeat apply Exists.intro); refine And.intro (Need.mk (below_ev g l z cc a b c h hl i)) ?_)
 refine ⟨fun h1 => ?_, fun h1 => ?_⟩
 ·(simp only [decide_eq_true_eq, decide_eq_false_iff_not, Bool.not_eq_true', Bool.not_eq_false'] at h1)
  ((repeat apply Exists.intro); refine And.intro (Need.mk (ha)) ?_)
  refine ⟨?_, rfl⟩
  have : below l i ≠ [] := fun e => by rw [e] at h1; simp at h1
  simp [rightN, this]
 ·(simp only [decide_eq_true_eq, decide_eq_false_iff_not, Bool.not_eq_true', Bool.not_eq_false'] at h1)
  have : below l i = [] := List.length_eq_zero_iff.1 (by omega)
  exact ⟨by simp [rightN, this], rfl⟩
end Go.Am.T
