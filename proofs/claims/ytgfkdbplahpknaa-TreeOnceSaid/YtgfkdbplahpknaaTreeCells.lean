/-
  A part of the proof of a law: see the text that states it.
-/
import Derived.Test.YtgfkdbplahpknaaO
import Derived.Test.YtgfkdbplahpknaaVcF
import Derived.Test.YtgfkdbplahpknaaAm4
set_option linter.all false
namespace Go.Am.T
open Go
set_option maxRecDepth 100000
theorem rheld_ev (n : Int) : E 26 [iv n] [] (iv (heldK n)) [] := by
 refine ev_of (vc26 n _ ⟨fun h => ?_, fun h => ⟨fun h2 => ?_, fun h2 => ?_⟩⟩)
 ·(simp only [decide_eq_true_eq, decide_eq_false_iff_not, Bool.not_eq_true', Bool.not_eq_false'] at h)
  have : heldK n = 0 := by unfold heldK; omega
  rw [this]; exact ⟨rfl, rfl⟩
 ·(simp only [decide_eq_true_eq, decide_eq_false_iff_not, Bool.not_eq_true', Bool.not_eq_false'] at h); (simp only [decide_eq_true_eq, decide_eq_false_iff_not, Bool.not_eq_true', Bool.not_eq_false'] at h2)
  have : heldK n = 1099511627776 := by unfold heldK; omega
  rw [this]; exact ⟨rfl, rfl⟩
 ·(simp only [decide_eq_true_eq, decide_eq_false_iff_not, Bool.not_eq_true', Bool.not_eq_false'] at h); (simp only [decide_eq_true_eq, decide_eq_false_iff_not, Bool.not_eq_true', Bool.not_eq_false'] at h2)
  have : heldK n = n := by unfold heldK; omega
  rw [this]; exact ⟨rfl, rfl⟩
theorem smOK {s : Sml} (hi : InR tSm s) (h : s.2.2.1.length ≤ 20 ∧ s.2.2.2.2.2.1.length ≤ 5 ∧ ∀ x ∈ s.2.2.2.1, x.length ≤ 8) : SmOK s := by
 obtain ⟨x0, x1, a2, a3, a4, a5, a6, _⟩ := s
 simp only [InR] at hi
 obtain ⟨i0, i1, ⟨_, i2⟩, ⟨_, i3⟩, ⟨_, i4⟩, ⟨_, i5⟩, ⟨_, i6⟩, _⟩ := hi
 have mem : ∀ l : List Int, (∀ i, i < l.length → (Lit.int .u8 (l.getD i 0)).wf = true) → ∀ x ∈ l, isBy x := fun l h x hx => by
  obtain ⟨i, hi, rfl⟩ := List.mem_iff_getElem.1 hx
  have := h i hi
  rw [List.getD_eq_getElem?_getD, List.getElem?_eq_getElem hi] at this
  exact u8_wf this
 refine ⟨u8_wf i0, u8_wf i1, mem _ i2, fun l hl => ?_, mem _ i4, mem _ i5, mem _ i6, h.1, h.2.1, h.2.2⟩
 obtain ⟨i, hi, rfl⟩ := List.mem_iff_getElem.1 hl
 have := (i3 i hi).2
 rw [List.getD_eq_getElem?_getD, List.getElem?_eq_getElem hi] at this
 exact mem _ this
theorem sm_len {s : Sml} (hi : InR tSm s) : s.2.2.2.1.length ≤ maxLen := by
 obtain ⟨x0, x1, a2, a3, a4, a5, a6, _⟩ := s
 simp only [InR] at hi
 exact hi.2.2.2.1.1
theorem kidsN_cell {l : List Th} (h : CellOK l) {k : Nat} (hk : k < l.length) : ((kidsN l k).length : Int) = (l.getD k th0).2.1 - 1 := by
 have hi : inR l k = true := by simp [inR, hk]
 unfold kidsN
 rw [atN_in hi, Int.toNat_natCast]
 have := h _ (getD_mem' th0 hk)
 omega
theorem cells_law (s : Sml) (n : Int) (ops : List Op) (hi : InR tSm s) (ho : InR (.slice tOp) ops) : E 6 [.tv [] tSm s, iv n, .tv [] (.slice tOp) ops] [] (bv true) [] := by
 have hol : ops.length ≤ maxLen := ho.1
 obtain ⟨b1, hb1, e1⟩ := Few_ev s 20 8 (sm_len hi)
 obtain ⟨b2, hb2, e2⟩ := few_ev ops hol
 obtain ⟨x0, x1, a2, a3, a4, a5, a6, _⟩ := s
 have key : EvF PP orc 6 [.tv [] tSm (x0, x1, a2, a3, a4, a5, a6, ()), iv n, .tv [] (.slice tOp) ops] [] fun v h => v = bv true ∧ h = [] := by
  refine vc6 x0 x1 a2 a3 a4 a5 a6 n ops _ ?_
  ((repeat apply Exists.intro); refine And.intro (Need.mk (awake_ev)) ?_)
  ((repeat apply Exists.intro); refine And.intro (Need.mk (e1)) ?_)
  ((repeat apply Exists.intro); refine And.intro (Need.mk (e2)) ?_)
  refine ⟨fun _ => ⟨rfl, rfl⟩, fun h1 => ⟨fun _ => ⟨rfl, rfl⟩, fun h2 => ?_⟩⟩
  obtain ⟨hn, hk⟩ := hb2 (by simpa using h2)
  obtain ⟨p, hp, ep⟩ := plan_ev _ (smOK hi (hb1 (by simpa using h1)))
  obtain ⟨p0, p1, p2, p3, p4, p5, _⟩ := p
  ((repeat apply Exists.intro); refine And.intro (Need.mk (ep)) ?_)
  ((repeat apply Exists.intro); refine And.intro (Need.mk (mnew_ev n)) ?_)
  ((repeat apply Exists.intro); refine And.intro (Need.mk (tnew_ev (heldK n) 0 0)) ?_)
  ((repeat apply Exists.intro); refine And.intro (Need.mk (rheld_ev n)) ?_)
  refine ⟨nofun, fun _ => ⟨nofun, fun _ => ?_⟩⟩
  have hA : heldK n ≤ bigM ∧ 0 ≤ heldK n := by unfold heldK bigM; omega
  refine ⟨fun i gr m gr' rl a b c g' y g n' cc a' b' c' => ∃ (k G GR : Nat) (l z : List Th), i = k ∧ k ≤ ops.length ∧ gr = (GR : Int) ∧ m = ((toRL l).length : Int) ∧ gr' = (GR : Int) ∧ rl = toRL l ∧ a = heldK n ∧ g' = (G : Int) ∧ y = l ++ z ∧ g = (G : Int) ∧ n' = (l.length : Int) ∧ cc = b ∧ a' = heldK n ∧ b' = b ∧ c' = c ∧ Ok (heldK n) k l z b,
   fun i _ _ _ _ _ _ _ _ _ _ _ _ _ _ _ => ((ops.length : Int) - i).toNat, ⟨(by first | trivial | exact rfl | exact ⟨rfl, rfl⟩ | omega)⟩, ⟨0, 0, 0, [], [], rfl, by omega, (by first | trivial | exact rfl | exact ⟨rfl, rfl⟩ | omega), (by first | trivial | exact rfl | exact ⟨rfl, rfl⟩ | omega), (by first | trivial | exact rfl | exact ⟨rfl, rfl⟩ | omega), (by first | trivial | exact rfl | exact ⟨rfl, rfl⟩ | omega), (by first | trivial | exact rfl | exact ⟨rfl, rfl⟩ | omega), (by first | trivial | exact rfl | exact ⟨rfl, rfl⟩ | omega), (by first | trivial | exact rfl | exact ⟨rfl, rfl⟩ | omega), (by first | trivial | exact rfl | exact ⟨rfl, rfl⟩ | omega), (by first | trivial | exact rfl | exact ⟨rfl, rfl⟩ | omega), (by first | trivial | exact rfl | exact ⟨rfl, rfl⟩ | omega), (by first | trivial | exact rfl | exact ⟨rfl, rfl⟩ | omega), (by first | trivial | exact rfl | exact ⟨rfl, rfl⟩ | omega), (by first | trivial | exact rfl | exact ⟨rfl, rfl⟩ | omega), ⟨.nil, rfl, hA.2, hA.1, by simp⟩⟩, ?_⟩
  rintro _ _ _ _ _ _ b c _ _ _ _ _ _ _ _ ⟨k, G, GR, l, z, rfl, hk1, rfl, rfl, rfl, rfl, rfl, rfl, rfl, rfl, rfl, rfl, rfl, rfl, rfl, H⟩
  rename_i cc b c
  refine ⟨fun h => ?_, fun h => ?_⟩
  ·(simp only [decide_eq_true_eq, decide_eq_false_iff_not, Bool.not_eq_true', Bool.not_eq_false'] at h)
   have hk' : k < ops.length := by omega
   have hm := getD_mem' ((0 : Int), ((0 : Int), ((0 : Int), (((0 : Int), ((0 : Int), ((0 : Int), ()))), (([] : List Int), ()))))) hk'
   have hlen := H.len
   rw [List.length_append] at hlen
   obtain ⟨o', h1, e1⟩ := told_ev (p0, p1, p2, p3, p4, p5, ()) hp GR l (heldK n) b c (ops.getD k ((0 : Int), ((0 : Int), ((0 : Int), (((0 : Int), ((0 : Int), ((0 : Int), ()))), (([] : List Int), ())))))) (by have := hk _ hm; omega) (by omega)
   obtain ⟨g', l', z', gr', b', c', H', e2⟩ := done_ev (heldK n) k G l z GR b c o' h1 (by omega) H
   have hlen' := H'.len
   rw [List.length_append] at hlen'
   simp only [Int.toNat_natCast]
   refine And.intro (Need.mk ⟨by omega, by omega⟩) ?_
   ((repeat apply Exists.intro); refine And.intro (Need.mk (e1)) ?_)
   ((repeat apply Exists.intro); refine And.intro (Need.mk (e2)) ?_)
   ((repeat apply Exists.intro); refine And.intro (Need.mk (len_tv g' l' z' b' (heldK n) b' c')) ?_)
   have hc := H'.tr.cells
   have hs := H'.sum
   have hle := H'.le
   have hlim := H'.lim
   have hnn := H'.nn
   unfold bigM at hlim
   refine ⟨fun s i gr m gr2 rl a b c g2 y g n2 cc a2 b2 c2 => ∃ q : Nat, i = q ∧ q ≤ l'.length ∧ s = l'.length + cellS (l'.take q) - q ∧ gr = (gr' : Int) ∧ m = ((toRL l').length : Int) ∧ gr2 = (gr' : Int) ∧ rl = toRL l' ∧ a = heldK n ∧ b = b' ∧ c = c' ∧ g2 = (g' : Int) ∧ y = l' ++ z' ∧ g = (g' : Int) ∧ n2 = (l'.length : Int) ∧ cc = b' ∧ a2 = heldK n ∧ b2 = b' ∧ c2 = c',
    fun _ i _ _ _ _ _ _ _ _ _ _ _ _ _ _ _ => ((l'.length : Int) - i).toNat, ⟨(by first | trivial | exact rfl | exact ⟨rfl, rfl⟩ | omega)⟩, ⟨0, rfl, by omega, by simp [cellS], (by first | trivial | exact rfl | exact ⟨rfl, rfl⟩ | omega), (by first | trivial | exact rfl | exact ⟨rfl, rfl⟩ | omega), (by first | trivial | exact rfl | exact ⟨rfl, rfl⟩ | omega), (by first | trivial | exact rfl | exact ⟨rfl, rfl⟩ | omega), (by first | trivial | exact rfl | exact ⟨rfl, rfl⟩ | omega), (by first | trivial | exact rfl | exact ⟨rfl, rfl⟩ | omega), (by first | trivial | exact rfl | exact ⟨rfl, rfl⟩ | omega), (by first | trivial | exact rfl | exact ⟨rfl, rfl⟩ | omega), (by first | trivial | exact rfl | exact ⟨rfl, rfl⟩ | omega), (by first | trivial | exact rfl | exact ⟨rfl, rfl⟩ | omega), (by first | trivial | exact rfl | exact ⟨rfl, rfl⟩ | omega), (by first | trivial | exact rfl | exact ⟨rfl, rfl⟩ | omega), (by first | trivial | exact rfl | exact ⟨rfl, rfl⟩ | omega), (by first | trivial | exact rfl | exact ⟨rfl, rfl⟩ | omega), (by first | trivial | exact rfl | exact ⟨rfl, rfl⟩ | omega)⟩, ?_⟩
   rintro _ _ _ _ _ _ _ _ _ _ _ _ _ _ _ _ _ ⟨q, rfl, hq, rfl, rfl, rfl, rfl, rfl, rfl, rfl, rfl, rfl, rfl, rfl, rfl, rfl, rfl, rfl, rfl⟩
   have hql := cellS_le hc.nn q
   have hq0 := cellS_nn (l := l'.take q) fun x hx => hc.nn x (List.mem_of_mem_take hx)
   refine ⟨fun h4 => ?_, fun h4 => ?_⟩
   ·(simp only [decide_eq_true_eq, decide_eq_false_iff_not, Bool.not_eq_true', Bool.not_eq_false'] at h4)
    have hq' : q < l'.length := by omega
    have t1 := cellS_take l' q hq'
    have t2 := kidsN_cell hc hq'
    have t3 := H'.tr.kidsN q
    ((repeat apply Exists.intro); refine And.intro (Need.mk (kids_tv g' l' z' _ (heldK n) _ _ q t3)) ?_)
    refine ⟨⟨by omega⟩, ⟨by omega⟩, ⟨(by first | trivial | exact rfl | exact ⟨rfl, rfl⟩ | omega)⟩, ⟨q + 1, by omega, by omega, by omega, (by first | trivial | exact rfl | exact ⟨rfl, rfl⟩ | omega), (by first | trivial | exact rfl | exact ⟨rfl, rfl⟩ | omega), (by first | trivial | exact rfl | exact ⟨rfl, rfl⟩ | omega), (by first | trivial | exact rfl | exact ⟨rfl, rfl⟩ | omega), (by first | trivial | exact rfl | exact ⟨rfl, rfl⟩ | omega), (by first | trivial | exact rfl | exact ⟨rfl, rfl⟩ | omega), (by first | trivial | exact rfl | exact ⟨rfl, rfl⟩ | omega), (by first | trivial | exact rfl | exact ⟨rfl, rfl⟩ | omega), (by first | trivial | exact rfl | exact ⟨rfl, rfl⟩ | omega), (by first | trivial | exact rfl | exact ⟨rfl, rfl⟩ | omega), (by first | trivial | exact rfl | exact ⟨rfl, rfl⟩ | omega), (by first | trivial | exact rfl | exact ⟨rfl, rfl⟩ | omega), (by first | trivial | exact rfl | exact ⟨rfl, rfl⟩ | omega), (by first | trivial | exact rfl | exact ⟨rfl, rfl⟩ | omega), (by first | trivial | exact rfl | exact ⟨rfl, rfl⟩ | omega)⟩, ⟨by ((try dsimp only); omega)⟩⟩
   ·(simp only [decide_eq_true_eq, decide_eq_false_iff_not, Bool.not_eq_true', Bool.not_eq_false'] at h4)
    have : q = l'.length := by omega
    subst this
    rw [List.take_length] at hql hq0 ⊢
    ((repeat apply Exists.intro); refine And.intro (Need.mk (cells_tv g' l' z' _ (heldK n) _ _)) ?_)
    have hz : (l'.length : Int) + cellS l' - l'.length = cellS l' := by omega
    rw [hz]
    refine ⟨fun h5 => by simp [hs] at h5, fun _ => ?_⟩
    ((repeat apply Exists.intro); refine And.intro (Need.mk (used_ev (heldK n) _ _)) ?_)
    refine ⟨fun h5 => by simp [hs] at h5, fun _ => ?_⟩
    ((repeat apply Exists.intro); refine And.intro (Need.mk (rheld_ev n)) ?_)
    refine ⟨fun h5 => by (simp only [decide_eq_true_eq, decide_eq_false_iff_not, Bool.not_eq_true', Bool.not_eq_false'] at h5); omega, fun _ => ⟨⟨by omega⟩, ⟨(by first | trivial | exact rfl | exact ⟨rfl, rfl⟩ | omega)⟩, ⟨k + 1, g', gr', l', z', by omega, by omega, (by first | trivial | exact rfl | exact ⟨rfl, rfl⟩ | omega), (by first | trivial | exact rfl | exact ⟨rfl, rfl⟩ | omega), (by first | trivial | exact rfl | exact ⟨rfl, rfl⟩ | omega), (by first | trivial | exact rfl | exact ⟨rfl, rfl⟩ | omega), (by first | trivial | exact rfl | exact ⟨rfl, rfl⟩ | omega), (by first | trivial | exact rfl | exact ⟨rfl, rfl⟩ | omega), (by first | trivial | exact rfl | exact ⟨rfl, rfl⟩ | omega), (by first | trivial | exact rfl | exact ⟨rfl, rfl⟩ | omega), (by first | trivial | exact rfl | exact ⟨rfl, rfl⟩ | omega), (by first | trivial | exact rfl | exact ⟨rfl, rfl⟩ | omega), (by first | trivial | exact rfl | exact ⟨rfl, rfl⟩ | omega), (by first | trivial | exact rfl | exact ⟨rfl, rfl⟩ | omega), (by first | trivial | exact rfl | exact ⟨rfl, rfl⟩ | omega), H'⟩, ⟨by ((try dsimp only); omega)⟩⟩⟩
  ·(simp only [decide_eq_true_eq, decide_eq_false_iff_not, Bool.not_eq_true', Bool.not_eq_false'] at h)
   have hc := H.tr.cells
   have hle := H.le
   have hlim := H.lim
   have hlen := H.len
   ((repeat apply Exists.intro); refine And.intro (Need.mk (cells_tv G l z _ (heldK n) _ _)) ?_)
   refine ⟨fun _ => ?_, nofun⟩
   ((repeat apply Exists.intro); refine And.intro (Need.mk (reset_tv G l z (heldK n) _ _ (by omega) H.sum hc.nn (by omega))) ?_)
   refine ⟨fun _ => ?_, fun h5 => by simp at h5⟩
   ((repeat apply Exists.intro); refine And.intro (Need.mk (len_tv G [] _ 0 (heldK n) 0 _)) ?_)
   refine ⟨fun _ => ?_, fun h5 => by simp at h5⟩
   ((repeat apply Exists.intro); refine And.intro (Need.mk (used_ev (heldK n) 0 _)) ?_)
   refine ⟨fun _ => ?_, fun h5 => by simp at h5⟩
   ((repeat apply Exists.intro); refine And.intro (Need.mk (cells_tv G [] _ 0 (heldK n) 0 _)) ?_)
   exact ⟨rfl, rfl⟩
 obtain ⟨v, h', e, rfl, rfl⟩ := key
 exact e
end Go.Am.T
