/-
  A part of the proof of a law: see the text that states it.
-/
import Derived.Test.YtgfkdbplahpknaaY
import Derived.Test.YtgfkdbplahpknaaVcN
set_option linter.all false
namespace Go.Am.T
open Go
set_option maxRecDepth 100000
theorem toks_ev (a : List Tok) (ha : a.length ≤ 100000) : E 33 [.tv [] (.slice tTok) a, .tv [] (.slice tTok) a] [] (bv true) [] := by
 refine ev_of (vc33 a a _ ⟨fun h => by simp at h, fun _ => ?_⟩)
 refine ⟨fun i => ∃ k : Nat, i = k ∧ k ≤ a.length, fun i => ((a.length : Int) - i).toNat, ⟨0, rfl, by omega⟩, ?_⟩
 rintro _ ⟨k, rfl, hk⟩
 refine ⟨fun h => ?_, fun h => ⟨rfl, (by first | trivial | exact rfl | exact ⟨rfl, rfl⟩ | omega)⟩⟩
 (simp only [decide_eq_true_eq, decide_eq_false_iff_not, Bool.not_eq_true', Bool.not_eq_false'] at h)
 simp only [Int.toNat_natCast]
 refine ⟨⟨by omega⟩, ⟨by omega⟩, fun h2 => by simp at h2, fun _ => ⟨⟨by omega⟩, ⟨k + 1, by omega, by omega⟩, ⟨by ((try dsimp only); omega)⟩⟩⟩
theorem yield_le {l : List Th} (h : Tr l) (i : Int) : (yieldN l i).length ≤ l.length := by
 unfold yieldN
 rw [List.length_map]
 have := List.length_filter_le (leafN l) (below l i)
 have := tr_size h i
 omega
theorem at_same (l : List Th) (i : Int) : (atR l i).1 = leafN l i ∧ (atR l i).2.1 = ruleN l i ∧ (atR l i).2.2.1 = symN l i ∧ (atR l i).2.2.2.1 = tokN l i ∧ (atR l i).2.2.2.2.1 = kidsN l i := by
 by_cases hi : inR l i = true
 ·have e : atR l i = toR (l.getD i.toNat th0) := by unfold atR; rw [if_pos hi]
  rw [e]
  exact ⟨toR_leaf hi, toR_rule hi, toR_sym hi, toR_tok hi, toR_kids hi⟩
 ·have e : atR l i = rdef := by unfold atR; rw [if_neg hi]
  rw [e]
  unfold leafN ruleN symN tokN kidsN atN
  simp only [if_neg hi]
  exact ⟨rfl, rfl, rfl, rfl, rfl⟩
theorem plays_law (s : Sml) (n : Int) (ops : List Op) (w : Int) (hi : InR tSm s) (ho : InR (.slice tOp) ops) : E 8 [.tv [] tSm s, iv n, .tv [] (.slice tOp) ops, iv w] [] (bv true) [] := by
 have hol : ops.length ≤ maxLen := ho.1
 obtain ⟨b1, hb1, e1⟩ := Few_ev s 20 8 (sm_len hi)
 obtain ⟨b2, hb2, e2⟩ := few_ev ops hol
 obtain ⟨x0, x1, a2, a3, a4, a5, a6, _⟩ := s
 have key : EvF PP orc 8 [.tv [] tSm (x0, x1, a2, a3, a4, a5, a6, ()), iv n, .tv [] (.slice tOp) ops, iv w] [] fun v h => v = bv true ∧ h = [] := by
  refine vc8 x0 x1 a2 a3 a4 a5 a6 n ops w _ ?_
  ((repeat apply Exists.intro); refine And.intro (Need.mk (awake_ev)) ?_)
  ((repeat apply Exists.intro); refine And.intro (Need.mk (e1)) ?_)
  ((repeat apply Exists.intro); refine And.intro (Need.mk (e2)) ?_)
  refine ⟨fun _ => ⟨rfl, rfl⟩, fun h1 => ⟨fun _ => ⟨rfl, rfl⟩, fun h2 => ?_⟩⟩
  obtain ⟨hn, hk⟩ := hb2 (by simpa using h2)
  obtain ⟨p, hp, ep⟩ := plan_ev _ (smOK hi (hb1 (by simpa using h1)))
  obtain ⟨p0, p1, p2, p3, p4, p5, _⟩ := p
  ((repeat apply Exists.intro); refine And.intro (Need.mk (ep)) ?_)
  ((repeat apply Exists.intro); refine And.intro (Need.mk (mnew_ev n)) ?_)
  ((repeat apply Exists.intro); refine And.intro (Need.mk (tnew_ev (heldK n) 0 0)) ?_)
  ((repeat apply Exists.intro); refine And.intro (Need.mk (rheld_ev n)) ?_)
  refine ⟨nofun, fun _ => ⟨nofun, fun _ => ?_⟩⟩
  have hA : heldK n ≤ bigM ∧ 0 ≤ heldK n := by unfold heldK bigM; omega
  refine ⟨fun i gr m gr' rl a b c g' y g n' cc a' b' c' => ∃ (k G GR : Nat) (l z : List Th), i = k ∧ k ≤ ops.length ∧ gr = (GR : Int) ∧ m = ((toRL l).length : Int) ∧ gr' = (GR : Int) ∧ rl = toRL l ∧ a = heldK n ∧ g' = (G : Int) ∧ y = l ++ z ∧ g = (G : Int) ∧ n' = (l.length : Int) ∧ cc = b ∧ a' = heldK n ∧ b' = b ∧ c' = c ∧ Ok (heldK n) k l z b,
   fun i _ _ _ _ _ _ _ _ _ _ _ _ _ _ _ => ((ops.length : Int) - i).toNat, ⟨(by first | trivial | exact rfl | exact ⟨rfl, rfl⟩ | omega)⟩, ⟨0, 0, 0, [], [], rfl, by omega, (by first | trivial | exact rfl | exact ⟨rfl, rfl⟩ | omega), (by first | trivial | exact rfl | exact ⟨rfl, rfl⟩ | omega), (by first | trivial | exact rfl | exact ⟨rfl, rfl⟩ | omega), (by first | trivial | exact rfl | exact ⟨rfl, rfl⟩ | omega), (by first | trivial | exact rfl | exact ⟨rfl, rfl⟩ | omega), (by first | trivial | exact rfl | exact ⟨rfl, rfl⟩ | omega), (by first | trivial | exact rfl | exact ⟨rfl, rfl⟩ | omega), (by first | trivial | exact rfl | exact ⟨rfl, rfl⟩ | omega), (by first | trivial | exact rfl | exact ⟨rfl, rfl⟩ | omega), (by first | trivial | exact rfl | exact ⟨rfl, rfl⟩ | omega), (by first | trivial | exact rfl | exact ⟨rfl, rfl⟩ | omega), (by first | trivial | exact rfl | exact ⟨rfl, rfl⟩ | omega), (by first | trivial | exact rfl | exact ⟨rfl, rfl⟩ | omega), ⟨.nil, rfl, hA.2, hA.1, by simp⟩⟩, ?_⟩
  rintro _ _ _ _ _ _ b c _ _ _ _ _ _ _ _ ⟨k, G, GR, l, z, rfl, hk1, rfl, rfl, rfl, rfl, rfl, rfl, rfl, rfl, rfl, rfl, rfl, rfl, rfl, H⟩
  rename_i cc b c
  refine ⟨fun h => ?_, fun h => ?_⟩
  ·(simp only [decide_eq_true_eq, decide_eq_false_iff_not, Bool.not_eq_true', Bool.not_eq_false'] at h)
   have hk' : k < ops.length := by omega
   have hm := getD_mem' ((0 : Int), ((0 : Int), ((0 : Int), (((0 : Int), ((0 : Int), ((0 : Int), ()))), (([] : List Int), ()))))) hk'
   have hlen := H.len
   rw [List.length_append] at hlen
   obtain ⟨o', h1, e1⟩ := told_ev (p0, p1, p2, p3, p4, p5, ()) hp GR l (heldK n) b c (ops.getD k ((0 : Int), ((0 : Int), ((0 : Int), (((0 : Int), ((0 : Int), ((0 : Int), ()))), (([] : List Int), ())))))) (by have := hk _ hm; omega) (by omega)
   obtain ⟨g', l', z', gr', b', c', H', e2⟩ := done_ev (heldK n) k G l z GR b c o' h1 (by omega) H
   have hlen' := H'.len
   rw [List.length_append] at hlen'
   simp only [Int.toNat_natCast]
   refine And.intro (Need.mk ⟨by omega, by omega⟩) ?_
   ((repeat apply Exists.intro); refine And.intro (Need.mk (e1)) ?_)
   ((repeat apply Exists.intro); refine And.intro (Need.mk (e2)) ?_)
   ((repeat apply Exists.intro); refine And.intro (Need.mk (len_tv g' l' z' b' (heldK n) b' c')) ?_)
   ((repeat apply Exists.intro); refine And.intro (Need.mk (cells_tv g' l' z' b' (heldK n) b' c')) ?_)
   have hc := H'.tr.cells
   have hs := H'.sum
   have hle := H'.le
   have hlim := H'.lim
   refine ⟨nofun, fun _ => ⟨fun h5 => by simp at h5, fun _ => ?_⟩⟩
   ((repeat apply Exists.intro); refine And.intro (Need.mk (rcells_ev gr' l' (heldK n) b' c' hc (by omega) (by omega))) ?_)
   refine ⟨fun h5 => by simp [hs] at h5, fun _ => ?_⟩
   ((repeat apply Exists.intro); refine And.intro (Need.mk (used_ev (heldK n) b' c')) ?_)
   refine ⟨fun h5 => by simp at h5, fun _ => ⟨⟨by omega⟩, ⟨by simp⟩, ⟨k + 1, g', gr', l', z', by omega, by omega, (by first | trivial | exact rfl | exact ⟨rfl, rfl⟩ | omega), (by first | trivial | exact rfl | exact ⟨rfl, rfl⟩ | omega), (by first | trivial | exact rfl | exact ⟨rfl, rfl⟩ | omega), (by first | trivial | exact rfl | exact ⟨rfl, rfl⟩ | omega), (by first | trivial | exact rfl | exact ⟨rfl, rfl⟩ | omega), (by first | trivial | exact rfl | exact ⟨rfl, rfl⟩ | omega), (by first | trivial | exact rfl | exact ⟨rfl, rfl⟩ | omega), (by first | trivial | exact rfl | exact ⟨rfl, rfl⟩ | omega), (by first | trivial | exact rfl | exact ⟨rfl, rfl⟩ | omega), (by first | trivial | exact rfl | exact ⟨rfl, rfl⟩ | omega), (by first | trivial | exact rfl | exact ⟨rfl, rfl⟩ | omega), (by first | trivial | exact rfl | exact ⟨rfl, rfl⟩ | omega), (by first | trivial | exact rfl | exact ⟨rfl, rfl⟩ | omega), H'⟩, ⟨by ((try dsimp only); omega)⟩⟩⟩
  ·(simp only [decide_eq_true_eq, decide_eq_false_iff_not, Bool.not_eq_true', Bool.not_eq_false'] at h)
   have hT := H.tr
   have hlen := H.len
   rw [List.length_append] at hlen
   have hll : l.length ≤ 1000 := by omega
   have hlr : (toRL l).length = l.length := by simp
   have cr1 := fun i => tright_ev (p0, p1, p2, p3, p4, p5, ()) G l z b (heldK n) b c hT hll i
   have cr2 := fun i => rright_ev (p0, p1, p2, p3, p4, p5, ()) GR l (heldK n) b c hT hll i
   have cw1 := fun i : Int => show_ev (p0, p1, p2, p3, p4, p5, ()) hp G l z b (heldK n) b c hT hll i.toNat i (Nat.le_refl _)
   have cw2 := fun i : Int => rshow_ev (p0, p1, p2, p3, p4, p5, ()) hp GR l (heldK n) b c hT hll i.toNat i (Nat.le_refl _)
   have facts : ∀ e : Int, ∃ (r0 : Bool) (r1 r2 t0 t1 t2 : Int) (r4 : List Int) (r5 : Bool), E 35 [.op (0, 0) [], iv e] (hR GR (toRL l) (heldK n) b c) (.tv [] tRn (r0, (r1, (r2, ((t0, (t1, (t2, ()))), (r4, (r5, ()))))))) (hR GR (toRL l) (heldK n) b c)
     ∧ E 19 [.op (0, 0) [], iv e] (T.hT G l z b (heldK n) b c) (iv r2) (T.hT G l z b (heldK n) b c)
     ∧ E 18 [.op (0, 0) [], iv e] (T.hT G l z b (heldK n) b c) (iv r1) (T.hT G l z b (heldK n) b c)
     ∧ E 17 [.op (0, 0) [], iv e] (T.hT G l z b (heldK n) b c) (.tv [] tTok (t0, (t1, (t2, ())))) (T.hT G l z b (heldK n) b c)
     ∧ E 36 [.op (0, 0) [], iv e] (T.hT G l z b (heldK n) b c) (bv r0) (T.hT G l z b (heldK n) b c)
     ∧ E 14 [.op (0, 0) [], iv e] (T.hT G l z b (heldK n) b c) (lvO r4) (T.hT G l z b (heldK n) b c) ∧ r4.length ≤ 1000 := fun e => by
    obtain ⟨s0, s1, s2, s3, s4⟩ := at_same l e
    have ca := rat_ev GR l (heldK n) b c e
    obtain ⟨r, hr⟩ : ∃ r, r = atR l e := ⟨_, rfl⟩
    rw [← hr] at ca s0 s1 s2 s3 s4
    obtain ⟨r0, r1, r2, ⟨t0, t1, t2, _⟩, r4, r5, _⟩ := r
    dsimp only at s0 s1 s2 s3 s4
    refine ⟨r0, r1, r2, t0, t1, t2, r4, r5, ca, ?_, ?_, ?_, ?_, ?_, ?_⟩
    ·rw [s2]; exact sym_tv G l z b (heldK n) b c e
    ·rw [s1]; exact rule_tv G l z b (heldK n) b c e
    ·have := tok_tv G l z b (heldK n) b c e
     rw [← s3] at this; exact this
    ·rw [s0]; exact leaf_tv G l z b (heldK n) b c e
    ·rw [s4]; exact kids_tv G l z b (heldK n) b c e (hT.kidsN e)
    ·rw [s4]; exact hT.kidsN e
   refine ⟨fun i gr m gr' rl ra rb rc g' y g n' cc a' b' c' => ∃ q : Nat, i = (q : Int) - 1 ∧ q ≤ l.length + 3 ∧ gr = (GR : Int) ∧ m = ((toRL l).length : Int) ∧ gr' = (GR : Int) ∧ rl = toRL l ∧ ra = heldK n ∧ rb = b ∧ rc = c ∧ g' = (G : Int) ∧ y = l ++ z ∧ g = (G : Int) ∧ n' = (l.length : Int) ∧ cc = b ∧ a' = heldK n ∧ b' = b ∧ c' = c,
    fun i _ _ _ _ _ _ _ _ _ _ _ _ _ _ _ => ((l.length : Int) + 2 - i).toNat, ⟨(by first | trivial | exact rfl | exact ⟨rfl, rfl⟩ | omega)⟩, ⟨0, by omega, by omega, by simp, by simp, by simp, (by first | trivial | exact rfl | exact ⟨rfl, rfl⟩ | omega), (by first | trivial | exact rfl | exact ⟨rfl, rfl⟩ | omega), (by first | trivial | exact rfl | exact ⟨rfl, rfl⟩ | omega), (by first | trivial | exact rfl | exact ⟨rfl, rfl⟩ | omega), by simp, (by first | trivial | exact rfl | exact ⟨rfl, rfl⟩ | omega), by simp, by simp, (by first | trivial | exact rfl | exact ⟨rfl, rfl⟩ | omega), (by first | trivial | exact rfl | exact ⟨rfl, rfl⟩ | omega), (by first | trivial | exact rfl | exact ⟨rfl, rfl⟩ | omega), (by first | trivial | exact rfl | exact ⟨rfl, rfl⟩ | omega)⟩, ?_⟩
   rintro _ _ _ _ _ _ _ _ _ _ _ _ _ _ b c ⟨q, rfl, hq, rfl, rfl, rfl, rfl, rfl, rfl, rfl, rfl, rfl, rfl, rfl, rfl, rfl, rfl, rfl⟩
   have hm : (Int.toNat ((toRL l).length : Int) : Int) = l.length := by omega
   refine And.intro (Need.mk ⟨by omega, by omega⟩) ?_
   refine ⟨fun h3 => ?_, fun h3 => ⟨rfl, rfl⟩⟩
   (simp only [decide_eq_true_eq, decide_eq_false_iff_not, Bool.not_eq_true', Bool.not_eq_false'] at h3)
   refine ⟨fun h4 => ?_, fun h4 => ?_⟩
   ·(simp only [decide_eq_true_eq, decide_eq_false_iff_not, Bool.not_eq_true', Bool.not_eq_false'] at h4)
    obtain ⟨r0, r1, r2, t0, t1, t2, r4, r5, ca, cs, cu, ct, cl, ck, hkl⟩ := facts w
    ((repeat apply Exists.intro); refine And.intro (Need.mk (ca)) ?_)
    ((repeat apply Exists.intro); refine And.intro (Need.mk (cs)) ?_)
    refine ⟨fun h5 => by simp at h5, fun _ => ?_⟩
    ((repeat apply Exists.intro); refine And.intro (Need.mk (cu)) ?_)
    refine ⟨fun h5 => by simp at h5, fun _ => ?_⟩
    ((repeat apply Exists.intro); refine And.intro (Need.mk (ct)) ?_)
    refine ⟨fun h5 => by simp at h5, fun _ => ?_⟩
    ((repeat apply Exists.intro); refine And.intro (Need.mk (cl)) ?_)
    refine ⟨fun h5 => by simp at h5, fun _ => ?_⟩
    ((repeat apply Exists.intro); refine And.intro (Need.mk (ck)) ?_)
    ((repeat apply Exists.intro); refine And.intro (Need.mk (ints_ev r4 r4 (by omega))) ?_)
    refine ⟨fun h5 => by simp at h5, fun _ => ?_⟩
    ((repeat apply Exists.intro); refine And.intro (Need.mk (below_ev G l z b (heldK n) b c hT hll w)) ?_)
    ((repeat apply Exists.intro); refine And.intro (Need.mk (rbelow_ev GR l (heldK n) b c hT hll w)) ?_)
    ((repeat apply Exists.intro); refine And.intro (Need.mk (ints_ev (below l w) (below l w) (by have := tr_size hT w; omega))) ?_)
    refine ⟨fun h5 => by simp at h5, fun _ => ?_⟩
    ((repeat apply Exists.intro); refine And.intro (Need.mk (yield_ev G l z b (heldK n) b c hT hll w)) ?_)
    ((repeat apply Exists.intro); refine And.intro (Need.mk (ryield_ev GR l (heldK n) b c hT hll w)) ?_)
    ((repeat apply Exists.intro); refine And.intro (Need.mk (toks_ev (yieldN l w) (by have := yield_le hT w; omega))) ?_)
    refine ⟨fun h5 => by simp at h5, fun _ => ?_⟩
    ((repeat apply Exists.intro); refine And.intro (Need.mk (cr1 w)) ?_)
    ((repeat apply Exists.intro); refine And.intro (Need.mk (cr2 w)) ?_)
    refine ⟨fun h5 => by simp at h5, fun _ => ?_⟩
    ((repeat apply Exists.intro); refine And.intro (Need.mk (cw1 w)) ?_)
    ((repeat apply Exists.intro); refine And.intro (Need.mk (cw2 w)) ?_)
    refine ⟨fun h5 => by simp at h5, fun _ => ⟨⟨by omega⟩, ⟨⟨rfl, rfl, rfl⟩⟩, ⟨q + 1, by omega, by omega, (by first | trivial | exact rfl | exact ⟨rfl, rfl⟩ | omega), (by first | trivial | exact rfl | exact ⟨rfl, rfl⟩ | omega), (by first | trivial | exact rfl | exact ⟨rfl, rfl⟩ | omega), (by first | trivial | exact rfl | exact ⟨rfl, rfl⟩ | omega), (by first | trivial | exact rfl | exact ⟨rfl, rfl⟩ | omega), (by first | trivial | exact rfl | exact ⟨rfl, rfl⟩ | omega), (by first | trivial | exact rfl | exact ⟨rfl, rfl⟩ | omega), (by first | trivial | exact rfl | exact ⟨rfl, rfl⟩ | omega), (by first | trivial | exact rfl | exact ⟨rfl, rfl⟩ | omega), (by first | trivial | exact rfl | exact ⟨rfl, rfl⟩ | omega), (by first | trivial | exact rfl | exact ⟨rfl, rfl⟩ | omega), (by first | trivial | exact rfl | exact ⟨rfl, rfl⟩ | omega), (by first | trivial | exact rfl | exact ⟨rfl, rfl⟩ | omega), (by first | trivial | exact rfl | exact ⟨rfl, rfl⟩ | omega), (by first | trivial | exact rfl | exact ⟨rfl, rfl⟩ | omega)⟩, ⟨by ((try dsimp only); omega)⟩⟩⟩
   ·(simp only [decide_eq_true_eq, decide_eq_false_iff_not, Bool.not_eq_true', Bool.not_eq_false'] at h4)
    obtain ⟨r0, r1, r2, t0, t1, t2, r4, r5, ca, cs, cu, ct, cl, ck, hkl⟩ := facts ((q : Int) - 1)
    ((repeat apply Exists.intro); refine And.intro (Need.mk (ca)) ?_)
    ((repeat apply Exists.intro); refine And.intro (Need.mk (cs)) ?_)
    refine ⟨fun h5 => by simp at h5, fun _ => ?_⟩
    ((repeat apply Exists.intro); refine And.intro (Need.mk (cu)) ?_)
    refine ⟨fun h5 => by simp at h5, fun _ => ?_⟩
    ((repeat apply Exists.intro); refine And.intro (Need.mk (ct)) ?_)
    refine ⟨fun h5 => by simp at h5, fun _ => ?_⟩
    ((repeat apply Exists.intro); refine And.intro (Need.mk (cl)) ?_)
    refine ⟨fun h5 => by simp at h5, fun _ => ?_⟩
    ((repeat apply Exists.intro); refine And.intro (Need.mk (ck)) ?_)
    ((repeat apply Exists.intro); refine And.intro (Need.mk (ints_ev r4 r4 (by omega))) ?_)
    refine ⟨fun h5 => by simp at h5, fun _ => ?_⟩
    ((repeat apply Exists.intro); refine And.intro (Need.mk (below_ev G l z b (heldK n) b c hT hll ((q : Int) - 1))) ?_)
    ((repeat apply Exists.intro); refine And.intro (Need.mk (rbelow_ev GR l (heldK n) b c hT hll ((q : Int) - 1))) ?_)
    ((repeat apply Exists.intro); refine And.intro (Need.mk (ints_ev (below l ((q : Int) - 1)) (below l ((q : Int) - 1)) (by have := tr_size hT ((q : Int) - 1); omega))) ?_)
    refine ⟨fun h5 => by simp at h5, fun _ => ?_⟩
    ((repeat apply Exists.intro); refine And.intro (Need.mk (yield_ev G l z b (heldK n) b c hT hll ((q : Int) - 1))) ?_)
    ((repeat apply Exists.intro); refine And.intro (Need.mk (ryield_ev GR l (heldK n) b c hT hll ((q : Int) - 1))) ?_)
    ((repeat apply Exists.intro); refine And.intro (Need.mk (toks_ev (yieldN l ((q : Int) - 1)) (by have := yield_le hT ((q : Int) - 1); omega))) ?_)
    refine ⟨fun h5 => by simp at h5, fun _ => ?_⟩
    ((repeat apply Exists.intro); refine And.intro (Need.mk (cr1 ((q : Int) - 1))) ?_)
    ((repeat apply Exists.intro); refine And.intro (Need.mk (cr2 ((q : Int) - 1))) ?_)
    refine ⟨fun h5 => by simp at h5, fun _ => ?_⟩
    ((repeat apply Exists.intro); refine And.intro (Need.mk (cw1 ((q : Int) - 1))) ?_)
    ((repeat apply Exists.intro); refine And.intro (Need.mk (cw2 ((q : Int) - 1))) ?_)
    refine ⟨fun h5 => by simp at h5, fun _ => ⟨⟨by omega⟩, ⟨⟨rfl, rfl, rfl⟩⟩, ⟨q + 1, by omega, by omega, (by first | trivial | exact rfl | exact ⟨rfl, rfl⟩ | omega), (by first | trivial | exact rfl | exact ⟨rfl, rfl⟩ | omega), (by first | trivial | exact rfl | exact ⟨rfl, rfl⟩ | omega), (by first | trivial | exact rfl | exact ⟨rfl, rfl⟩ | omega), (by first | trivial | exact rfl | exact ⟨rfl, rfl⟩ | omega), (by first | trivial | exact rfl | exact ⟨rfl, rfl⟩ | omega), (by first | trivial | exact rfl | exact ⟨rfl, rfl⟩ | omega), (by first | trivial | exact rfl | exact ⟨rfl, rfl⟩ | omega), (by first | trivial | exact rfl | exact ⟨rfl, rfl⟩ | omega), (by first | trivial | exact rfl | exact ⟨rfl, rfl⟩ | omega), (by first | trivial | exact rfl | exact ⟨rfl, rfl⟩ | omega), (by first | trivial | exact rfl | exact ⟨rfl, rfl⟩ | omega), (by first | trivial | exact rfl | exact ⟨rfl, rfl⟩ | omega), (by first | trivial | exact rfl | exact ⟨rfl, rfl⟩ | omega), (by first | trivial | exact rfl | exact ⟨rfl, rfl⟩ | omega)⟩, ⟨by ((try dsimp only); omega)⟩⟩⟩
 obtain ⟨v, h', e, rfl, rfl⟩ := key
 exact e
end Go.Am.T
