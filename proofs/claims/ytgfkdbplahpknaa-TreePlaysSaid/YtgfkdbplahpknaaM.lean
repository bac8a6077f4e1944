/-
  A part of the proof of a law: see the text that states it.
-/
import Derived.Test.YtgfkdbplahpknaaL
import Derived.Test.YtgfkdbplahpknaaVcC
set_option linter.all false
namespace Go.Am.T
open Go
set_option maxRecDepth 100000
theorem rkids_ev (g : Nat) (l : List Th) (a b c n : Int) (hl : l.length ≤ 1000) : ∃ ks : List Int, ks.length ≤ l.length ∧ E 58 [.op (0, 0) [], iv n] (hR g (toRL l) a b c) (lvO ks) (hR g (toRL l) a b c) := by
 have key : EvF PP orc 58 [.op (0, 0) [], iv n] (hR g (toRL l) a b c) fun v h => ∃ ks : List Int, ks.length ≤ l.length ∧ v = lvO ks ∧ h = hR g (toRL l) a b c := by
  refine vc58 n g (toRL l) a b c _ ?_
  refine ⟨⟨by simp only [List.length_map]; omega⟩, ?_⟩
  refine ⟨fun ks i γ m a' b' c' γ' y => -1 ≤ i ∧ i < l.length ∧ (ks.length : Int) + i + 1 ≤ l.length ∧ γ = (g : Int) ∧ m = (l.length : Int) ∧ a' = a ∧ b' = b ∧ c' = c ∧ γ' = (g : Int) ∧ y = toRL l, fun _ i _ _ _ _ _ _ _ => (i + 1).toNat, ⟨(by first | trivial | exact rfl | exact ⟨rfl, rfl⟩ | omega)⟩, ⟨by simp; omega, by simp; omega, by simp, (by first | trivial | exact rfl | exact ⟨rfl, rfl⟩ | omega), by simp, (by first | trivial | exact rfl | exact ⟨rfl, rfl⟩ | omega), (by first | trivial | exact rfl | exact ⟨rfl, rfl⟩ | omega), (by first | trivial | exact rfl | exact ⟨rfl, rfl⟩ | omega), (by first | trivial | exact rfl | exact ⟨rfl, rfl⟩ | omega), (by first | trivial | exact rfl | exact ⟨rfl, rfl⟩ | omega)⟩, ?_⟩
  rintro ks i _ _ a b c _ _ ⟨h1, h2, h3, rfl, rfl, e1, e2, e3, rfl, rfl⟩
  subst e1 e2 e3
  refine ⟨fun h4 => ⟨fun h5 => ?_, fun h5 => ⟨ks, by omega, (by first | trivial | exact rfl | exact ⟨rfl, rfl⟩ | omega), hR_eq (by simp) rfl rfl⟩⟩, fun h4 => ⟨ks, by omega, (by first | trivial | exact rfl | exact ⟨rfl, rfl⟩ | omega), hR_eq (by simp) rfl rfl⟩⟩
  (simp only [decide_eq_true_eq, decide_eq_false_iff_not, Bool.not_eq_true', Bool.not_eq_false'] at h4); (simp only [decide_eq_true_eq, decide_eq_false_iff_not, Bool.not_eq_true', Bool.not_eq_false'] at h5)
  simp only [Int.toNat_natCast, List.length_map]
  refine ⟨⟨by omega⟩, ⟨(by first | trivial | exact rfl | exact ⟨rfl, rfl⟩ | omega)⟩, ⟨by omega⟩, ⟨(by first | trivial | exact rfl | exact ⟨rfl, rfl⟩ | omega)⟩, ⟨by omega⟩, fun _ => ?_, fun _ => ?_⟩
  ·exact ⟨⟨by simp only [List.length_cons, List.length_nil, bigN]; omega⟩, ⟨by omega⟩, ⟨(by first | trivial | exact rfl | exact ⟨rfl, rfl⟩ | omega)⟩, ⟨by omega, by omega, by simp only [List.length_append, List.length_cons, List.length_nil]; omega, (by first | trivial | exact rfl | exact ⟨rfl, rfl⟩ | omega), (by first | trivial | exact rfl | exact ⟨rfl, rfl⟩ | omega), (by first | trivial | exact rfl | exact ⟨rfl, rfl⟩ | omega), (by first | trivial | exact rfl | exact ⟨rfl, rfl⟩ | omega), (by first | trivial | exact rfl | exact ⟨rfl, rfl⟩ | omega), (by first | trivial | exact rfl | exact ⟨rfl, rfl⟩ | omega), (by first | trivial | exact rfl | exact ⟨rfl, rfl⟩ | omega)⟩, ⟨by ((try dsimp only); omega)⟩⟩
  ·exact ⟨⟨by omega⟩, ⟨(by first | trivial | exact rfl | exact ⟨rfl, rfl⟩ | omega)⟩, ⟨by omega, by omega, by omega, (by first | trivial | exact rfl | exact ⟨rfl, rfl⟩ | omega), (by first | trivial | exact rfl | exact ⟨rfl, rfl⟩ | omega), (by first | trivial | exact rfl | exact ⟨rfl, rfl⟩ | omega), (by first | trivial | exact rfl | exact ⟨rfl, rfl⟩ | omega), (by first | trivial | exact rfl | exact ⟨rfl, rfl⟩ | omega), (by first | trivial | exact rfl | exact ⟨rfl, rfl⟩ | omega), (by first | trivial | exact rfl | exact ⟨rfl, rfl⟩ | omega)⟩, ⟨by ((try dsimp only); omega)⟩⟩
 obtain ⟨v, h', e, ks, h1, rfl, rfl⟩ := key
 exact ⟨ks, h1, e⟩
theorem tmn {x n : Int} (hn : 0 < n) : -n < Int.tmod x n ∧ Int.tmod x n < n := by
 by_cases h : 0 ≤ x
 ·have := tm h hn; omega
 ·have h1 := tm (x := -x) (n := n) (by omega) hn
  rw [Int.neg_tmod] at h1
  omega
theorem told_ev (p : Pl) (hp : GoodP p) (g : Nat) (l : List Th) (a b c : Int) (o : Op) (ho : o.2.2.2.2.1.length ≤ 1000) (hl : l.length ≤ 1000) :
  ∃ o' : Op, o'.2.2.2.2.1.length ≤ 1000 ∧ E 28 [.tv [] tPl p, .op (0, 0) [], .tv [] tOp o] (hR g (toRL l) a b c) (.tv [] tOp o') (hR g (toRL l) a b c) := by
 obtain ⟨p0, p1, p2, p3, p4, p5, _⟩ := p
 obtain ⟨d, r, s, ⟨t0, t1, t2, _⟩, ks, _⟩ := o
 have hr := hp.rules
 simp only at hr ho
 have key : EvF PP orc 28 [.tv [] tPl (p0, p1, p2, p3, p4, p5, ()), .op (0, 0) [], .tv [] tOp (d, r, s, (t0, t1, t2, ()), ks, ())] (hR g (toRL l) a b c) fun v h => ∃ o' : Op, o'.2.2.2.2.1.length ≤ 1000 ∧ v = .tv [] tOp o' ∧ h = hR g (toRL l) a b c := by
  refine vc28 p0 p1 p2 p3 p4 p5 d r s t0 t1 t2 ks g (toRL l) a b c _ ⟨fun h => ⟨(d, r, s, (t0, t1, t2, ()), ks, ()), ho, rfl, rfl⟩, fun h => ?_⟩
  have m1 := tmn (x := r) (n := (p2.length : Int) - 1) (by omega)
  have m2 := tm (x := Int.tmod r ((p2.length : Int) - 1) + ((p2.length : Int) - 1)) (n := (p2.length : Int) - 1) (by omega) (by omega)
  (repeat (refine And.intro (Need.mk (by first | omega | (intro hh; exact hh.2 ⟨by omega, by omega, by omega⟩) | (intro hh; cases hh.1; done) | exact ⟨by omega, by omega, by omega⟩ | (simp only [List.length_append, List.length_cons, List.length_nil, bigN]; omega) | trivial | exact rfl | exact ⟨rfl, rfl⟩ | exact ⟨rfl, rfl, rfl⟩ | exact ⟨rfl, rfl, rfl, rfl⟩ | ((repeat' apply And.intro) <;> first | rfl | omega | (simp only [List.length_append, List.length_cons, List.length_nil, bigN]; omega) | (simp; done) | (simp; omega)))) ?_))
  obtain ⟨ks', h1, h2⟩ := rkids_ev g l a b c ((List.length (List.getD p2 (Int.toNat ((1 : Int) + (Int.tmod ((Int.tmod r (((List.length p2) : Int) - (1 : Int))) + (((List.length p2) : Int) - (1 : Int))) (((List.length p2) : Int) - (1 : Int))))) ((0 : Int), ([], ((0 : Int), ())))).2.1) : Int) hl
  ((repeat apply Exists.intro); refine And.intro (Need.mk (h2)) ?_)
  exact ⟨(2, _, _, (0, 0, 0, ()), ks', ()), by simp only; omega, rfl, rfl⟩
 obtain ⟨v, h', e, o', h1, rfl, rfl⟩ := key
 exact ⟨o', h1, e⟩
theorem done_ev (a : Int) (k : Nat) (g : Nat) (l z : List Th) (gr : Nat) (b c : Int) (o : Op) (ho : o.2.2.2.2.1.length ≤ 1000) (hk : k ≤ 100) (H : Ok a k l z b) :
  ∃ g' l' z' gr' b' c', Ok a (k + 1) l' z' b' ∧ E 27 [.op (0, 0) [], .op (0, 1) [], .tv [] tOp o] (hD g l z gr a b c) (bv true) (hD g' l' z' gr' a b' c') := by
 obtain ⟨d, r, s, ⟨t0, t1, t2, _⟩, ks, _⟩ := o
 simp only at ho
 have hb := H.nn
 have hle := H.le
 have hlim := H.lim
 have hlen := H.len
 have hll : l.length ≤ k := by rw [List.length_append] at hlen; omega
 have hsum := H.sum
 have key : EvF PP orc 27 [.op (0, 0) [], .op (0, 1) [], .tv [] tOp (d, r, s, (t0, t1, t2, ()), ks, ())] (hD g l z gr a b c) fun v h => ∃ g' l' z' gr' b' c', Ok a (k + 1) l' z' b' ∧ v = bv true ∧ h = hD g' l' z' gr' a b' c' := by
  refine vc27 d r s t0 t1 t2 ks gr (toRL l) g (l ++ z) l.length b a b c a b c _ ⟨fun h => ?_, fun h => ⟨fun h2 => ?_, fun h2 => ⟨fun h3 => ?_, fun h3 => ?_⟩⟩⟩
  ·by_cases hq : a - b < 1
   ·((repeat apply Exists.intro); refine And.intro (Need.mk (leaf_no g l z b a b c (t0, t1, t2, ()) hb hle hlim hq)) ?_)
    ((repeat apply Exists.intro); refine And.intro (Need.mk (rleaf_no gr l a b c (t0, t1, t2, ()) hb hle hlim hq)) ?_)
    exact ⟨fun _ => ⟨g, l, z, gr, b, c, ⟨H.tr, hsum, hle, hlim, by omega⟩, by simp, rfl⟩, fun h => by simp at h⟩
   ·((repeat apply Exists.intro); refine And.intro (Need.mk (leaf_ok g l z b a b c (t0, t1, t2, ()) hb hle hlim (by omega) (by omega) hb (by omega))) ?_)
    ((repeat apply Exists.intro); refine And.intro (Need.mk (rleaf_ok gr l a b c (t0, t1, t2, ()) hb hle hlim (by omega) (by omega))) ?_)
    refine ⟨fun _ => ⟨g + 1, l ++ [leafT (t0, t1, t2, ())], [], gr + 1, b + 1, max c (b + 1), ⟨.leaf _ _ H.tr, by rw [cellS_snoc, hsum], by omega, hlim, by simp only [List.length_append, List.length_cons, List.length_nil]; omega⟩, by simp, rfl⟩, fun h => by simp at h⟩
  ·obtain ⟨g', z', e1, hz⟩ := node_tv g l z a b c r s ks hb hle hlim (by omega) ho
   obtain ⟨gr', e2⟩ := rnode_tv gr l a b c r s ks hb hle hlim (by omega) ho
   ((repeat apply Exists.intro); refine And.intro (Need.mk (e1)) ?_)
   ((repeat apply Exists.intro); refine And.intro (Need.mk (e2)) ?_)
   refine ⟨fun _ => ⟨g', _, z', gr', _, _, ⟨?_, ?_, ?_, hlim, by omega⟩, by simp, rfl⟩, fun h => by simp at h⟩
   ·unfold nodeL
    split
    ·rename_i hr
     unfold nodeR at hr
     split at hr
     ·simp at hr
     ·rename_i hi
      split at hr
      ·simp at hr
      ·rename_i ht
       exact .node _ _ _ _ H.tr (by simpa using hi) (by simpa using ht) ho
    ·exact H.tr
   ·unfold nodeL nodeB
    split
    ·rename_i hr
     unfold nodeR at hr
     split at hr
     ·simp at hr
     ·rename_i hi
      rw [cellS_markN (inAll_snoc (by simpa using hi)), cellS_snoc, hsum]
    ·exact hsum
   ·unfold nodeB
    split
    ·rename_i hr
     unfold nodeR at hr
     split at hr
     ·simp at hr
     ·split at hr
      ·simp at hr
      ·split at hr
       ·simp at hr
       ·omega
    ·exact hle
  ·have hc := H.tr.cells
   ((repeat apply Exists.intro); refine And.intro (Need.mk (rcells_ev gr l a b c hc (by omega) (by omega))) ?_)
   rw [hsum]
   ((repeat apply Exists.intro); refine And.intro (Need.mk (rgive_ev a b c b hb (by omega) (by omega))) ?_)
   ((repeat apply Exists.intro); refine And.intro (Need.mk (reset_tv g l z a b c (by omega) hsum hc.nn (by omega))) ?_)
   refine ⟨g, [], List.replicate l.length th0 ++ z, gr + 1, 0, c, ⟨.nil, rfl, by omega, hlim, by simp only [List.length_append, List.length_replicate, List.length_nil] at hlen ⊢; omega⟩, by simp, ?_⟩
   rw [Int.sub_self]
   rfl
  ·exact ⟨g, l, z, gr, b, c, ⟨H.tr, hsum, hle, hlim, by omega⟩, rfl, rfl⟩
 obtain ⟨v, h', e, g', l', z', gr', b', c', h1, rfl, rfl⟩ := key
 exact ⟨g', l', z', gr', b', c', h1, e⟩
end Go.Am.T
