/-
  A part of the proof of a law: see the text that states it.
-/
import Derived.Test.YtgfkdbplahpknaaT
import Derived.Test.YtgfkdbplahpknaaTreeCells
import Derived.Test.YtgfkdbplahpknaaVcK
set_option linter.all false
namespace Go.Am.T
open Go
set_option maxRecDepth 100000
theorem tr_leafK {l : List Th} (h : Tr l) : ∀ x ∈ l, x.1.2.2.2.2.1 = true → x.1.2.2.2.1 = [] := by
 have mp : ∀ l : List Th, (∀ x ∈ l, x.1.2.2.2.2.1 = true → x.1.2.2.2.1 = []) ↔ ∀ y ∈ l.map (fun x : Th => (x.1.2.2.2.2.1, x.1.2.2.2.1)), y.1 = true → y.2 = [] := fun l => by
  constructor
  ·intro h y hy
   obtain ⟨x, hx, rfl⟩ := List.mem_map.1 hy
   exact h x hx
  ·intro h x hx
   exact h _ (List.mem_map.2 ⟨x, hx, rfl⟩)
 induction h with
 | nil => intro x hx; simp at hx
 | leaf l x _ ih =>
  intro y hy
  rcases List.mem_append.1 hy with hy | hy
  ·exact ih y hy
  ·simp only [List.mem_singleton] at hy; subst hy; exact fun _ => rfl
 | node l rule sym ks _ hi _ hk ih =>
  rw [mp, map_markN (fun x => rfl) (inAll_snoc hi), ← mp]
  intro y hy
  rcases List.mem_append.1 hy with hy | hy
  ·exact ih y hy
  ·simp only [List.mem_singleton] at hy; subst hy; exact fun h => by cases h
theorem leaf_kids {l : List Th} (h : Tr l) {i : Int} (hl : leafN l i = true) : kidsN l i = [] := by
 unfold leafN kidsN at *
 unfold atN at *
 split at hl
 ·rename_i hi
  rw [if_pos hi]
  rw [inR_iff] at hi
  exact tr_leafK h _ (getD_mem' _ (by omega)) hl
 ·cases hl
theorem right_eq {p : Pl} {l : List Th} (h : Tr l) {i : Int} (hi : inR l i = true) : rightN p l i = ((kidsN l i).all (rightN p l) && fitsN p l i) := by
 obtain ⟨h1, h2⟩ := tr_below h i hi
 have hne : ∀ j, inR l j = true → decide (below l j ≠ []) = true := fun j hj => by rw [(tr_below h j hj).1]; simp
 have hin : ∀ k ∈ kidsN l i, inR l k = true := fun k hk => by
  have := h2 k hk
  rw [inR_iff] at *
  omega
 have e : ∀ ks : List Int, (∀ k ∈ ks, inR l k = true) → (ks.flatMap (below l)).all (fitsN p l) = ks.all (rightN p l) := fun ks => by
  induction ks with
  | nil => intro _; rfl
  | cons k ks ih =>
   intro hk
   simp only [List.flatMap_cons, List.all_append, List.all_cons, rightN]
   rw [hne k (hk k List.mem_cons_self), ih fun q hq => hk q (List.mem_cons_of_mem _ hq), Bool.true_and]
 conv => lhs; unfold rightN
 rw [hne i hi, h1, List.all_append, e _ hin]
 simp
theorem right_leaf {p : Pl} {l : List Th} (h : Tr l) {i : Int} (hi : inR l i = true) (hl : leafN l i = true) : rightN p l i = (decide (0 < symN l i) && decide (symN l i < p.1.length)) := by
 rw [right_eq h hi, leaf_kids h hl]
 unfold fitsN
 rw [if_pos hl]; simp
theorem right_node {p : Pl} {l : List Th} (h : Tr l) {i : Int} (hi : inR l i = true) (hl : leafN l i = false) : rightN p l i = ((decide (0 < ruleN l i) && decide (ruleN l i < p.2.2.1.length) && (kidsN l i).all (rightN p l)) && (decide ((p.2.2.1.getD (ruleN l i).toNat pr0).1 = symN l i) && decide ((p.2.2.1.getD (ruleN l i).toNat pr0).2.1 = (kidsN l i).map (symN l)))) := by
 rw [right_eq h hi]
 unfold fitsN
 rw [if_neg (by simp [hl])]
 by_cases e : ruleN l i < 1 ∨ (p.2.2.1.length : Int) ≤ ruleN l i
 ·rw [if_pos e]
  have : (decide (0 < ruleN l i) && decide (ruleN l i < p.2.2.1.length)) = false := by
   rw [Bool.and_eq_false_iff, decide_eq_false_iff_not, decide_eq_false_iff_not]; omega
  rw [this]; simp
 ·rw [if_neg e]
  have : (decide (0 < ruleN l i) && decide (ruleN l i < p.2.2.1.length)) = true := by
   rw [Bool.and_eq_true, decide_eq_true_eq, decide_eq_true_eq]; omega
  rw [this, Bool.true_and]
  congr 2
  rw [Bool.eq_iff_iff, decide_eq_true_eq, decide_eq_true_eq]
  exact eq_comm
theorem right_law (s : Sml) (ops : List Op) (hi : InR tSm s) (ho : InR (.slice tOp) ops) : E 5 [.tv [] tSm s, .tv [] (.slice tOp) ops] [] (bv true) [] := by
 have hol : ops.length ≤ maxLen := ho.1
 obtain ⟨b1, hb1, e1⟩ := Few_ev s 20 8 (sm_len hi)
 obtain ⟨b2, hb2, e2⟩ := few_ev ops hol
 obtain ⟨x0, x1, a2, a3, a4, a5, a6, _⟩ := s
 have key : EvF PP orc 5 [.tv [] tSm (x0, x1, a2, a3, a4, a5, a6, ()), .tv [] (.slice tOp) ops] [] fun v h => v = bv true ∧ h = [] := by
  refine vc5 x0 x1 a2 a3 a4 a5 a6 ops _ ?_
  ((repeat apply Exists.intro); refine And.intro (Need.mk (awake_ev)) ?_)
  ((repeat apply Exists.intro); refine And.intro (Need.mk (e1)) ?_)
  ((repeat apply Exists.intro); refine And.intro (Need.mk (e2)) ?_)
  refine ⟨fun _ => ⟨rfl, rfl⟩, fun h1 => ⟨fun _ => ⟨rfl, rfl⟩, fun h2 => ?_⟩⟩
  obtain ⟨hn, hk⟩ := hb2 (by simpa using h2)
  obtain ⟨p, hp, ep⟩ := plan_ev _ (smOK hi (hb1 (by simpa using h1)))
  obtain ⟨G, l, z, GR, b, c, H, em⟩ := made_ev p hp ops hn hk
  have hT := H.tr
  have hlen := H.len
  rw [List.length_append] at hlen
  have hrl : ∀ k, (p.2.2.1.getD k pr0).2.1.length ≤ 1000000 := fun k => by
   by_cases h : k < p.2.2.1.length
   ·have := hp.right _ (getD_mem' pr0 h); omega
   ·rw [List.getD_eq_getElem?_getD, List.getElem?_eq_none (by omega)]; decide
  have hrn := fun (i : Int) h1 h2 => right_node (p := p) (l := l) hT (i := i) h1 h2
  have hrf := fun (i : Int) h1 h2 => right_leaf (p := p) (l := l) hT (i := i) h1 h2
  have cr := fun i => tright_ev p G l z b 1000 b c hT (by omega) i
  have cs := fun i => sym_tv G l z b 1000 b c i
  obtain ⟨p0, p1, p2, p3, p4, p5, _⟩ := p
  obtain ⟨P, hP⟩ : ∃ P : Pl, P = (p0, p1, p2, p3, p4, p5, ()) := ⟨_, rfl⟩
  rw [← hP] at hrn hrf
  have cr : ∀ i, E 25 [.op (0, 0) [], .tv [] tPl (p0, p1, p2, p3, p4, p5, ()), iv i] (T.hT G l z b 1000 b c) (bv (rightN P l i)) (T.hT G l z b 1000 b c) := fun i => by rw [hP]; exact cr i
  ((repeat apply Exists.intro); refine And.intro (Need.mk (ep)) ?_)
  refine Or.inl ?_
  ((repeat apply Exists.intro); refine And.intro (Need.mk (em)) ?_)
  refine ⟨nofun, fun _ => ?_⟩
  ((repeat apply Exists.intro); refine And.intro (Need.mk (len_tv G l z b 1000 b c)) ?_)
  refine ⟨fun h => by (simp only [decide_eq_true_eq, decide_eq_false_iff_not, Bool.not_eq_true', Bool.not_eq_false'] at h); simp at h, fun _ => ?_⟩
  refine ⟨fun i g' y a' b' c' gr' rl ra rb rc g n cc gr m => ∃ k : Nat, i = k ∧ k ≤ l.length ∧ g' = (G : Int) ∧ y = l ++ z ∧ a' = 1000 ∧ b' = b ∧ c' = c ∧ gr' = (GR : Int) ∧ rl = toRL l ∧ g = (G : Int) ∧ n = (l.length : Int) ∧ cc = b ∧ gr = (GR : Int) ∧ m = ((toRL l).length : Int),
   fun i _ _ _ _ _ _ _ _ _ _ _ _ _ _ _ => ((l.length : Int) - i).toNat, ⟨⟨rfl, rfl⟩⟩, ⟨0, rfl, by omega, (by first | trivial | exact rfl | exact ⟨rfl, rfl⟩ | omega), (by first | trivial | exact rfl | exact ⟨rfl, rfl⟩ | omega), (by first | trivial | exact rfl | exact ⟨rfl, rfl⟩ | omega), (by first | trivial | exact rfl | exact ⟨rfl, rfl⟩ | omega), (by first | trivial | exact rfl | exact ⟨rfl, rfl⟩ | omega), (by first | trivial | exact rfl | exact ⟨rfl, rfl⟩ | omega), (by first | trivial | exact rfl | exact ⟨rfl, rfl⟩ | omega), (by first | trivial | exact rfl | exact ⟨rfl, rfl⟩ | omega), (by first | trivial | exact rfl | exact ⟨rfl, rfl⟩ | omega), (by first | trivial | exact rfl | exact ⟨rfl, rfl⟩ | omega), (by first | trivial | exact rfl | exact ⟨rfl, rfl⟩ | omega), (by first | trivial | exact rfl | exact ⟨rfl, rfl⟩ | omega)⟩, ?_⟩
  rintro _ _ _ _ _ c _ _ ra rb rc _ _ b _ _ ⟨k, rfl, hk1, rfl, rfl, rfl, rfl, rfl, rfl, rfl, rfl, rfl, rfl, rfl, rfl⟩
  ((repeat apply Exists.intro); refine And.intro (Need.mk (len_tv G l z b 1000 b c)) ?_)
  refine ⟨fun h => ?_, fun _ => ⟨rfl, rfl⟩⟩
  (simp only [decide_eq_true_eq, decide_eq_false_iff_not, Bool.not_eq_true', Bool.not_eq_false'] at h)
  have hk' : k < l.length := by omega
  have hin : inR l (k : Int) = true := by rw [inR_iff]; omega
  have hlf : ((toRL l).getD (0 + Int.toNat (k : Int)) rn0).1 = leafN l k := by
   rw [Nat.zero_add, Int.toNat_natCast, toRL_get]; unfold leafN; rw [atN_in hin, Int.toNat_natCast]; rfl
  have hlr : (toRL l).length = l.length := by simp
  have next : ∃ q : Nat, (k : Int) + 1 = q ∧ q ≤ l.length ∧ ((G : Nat) : Int) = (G : Int) ∧ l ++ z = l ++ z ∧ (1000 : Int) = 1000 ∧ b = b ∧ c = c ∧ (((GR : Int).toNat : Nat) : Int) = (GR : Int) ∧ toRL l = toRL l ∧ ((G : Nat) : Int) = (G : Int) ∧ ((l.length : Nat) : Int) = (l.length : Int) ∧ b = b ∧ (((GR : Int).toNat : Nat) : Int) = (GR : Int) ∧ ((((toRL l).length : Int).toNat : Nat) : Int) = ((toRL l).length : Int) :=
   ⟨k + 1, by omega, by omega, rfl, rfl, rfl, rfl, rfl, by simp, rfl, rfl, rfl, rfl, by simp, by simp⟩
  refine And.intro (Need.mk ⟨by omega, by simp only [Int.toNat_natCast]; omega⟩) ?_
  refine And.intro (Need.mk rfl) ?_
  refine And.intro (Need.mk (show 0 + Int.toNat (k : Int) < (toRL l).length by omega)) ?_
  refine And.intro (Need.mk rfl) ?_
  refine And.intro (Need.mk (show 0 + Int.toNat (k : Int) < (toRL l).length by omega)) ?_
  refine ⟨fun h3 => ?_, fun h3 => ?_⟩
  ·have h3' : leafN l k = true := by rw [← hlf]; exact h3
   have hr := hrf k hin h3'
   ((repeat apply Exists.intro); refine And.intro (Need.mk (cr k)) ?_)
   ((repeat apply Exists.intro); refine And.intro (Need.mk (cs k)) ?_)
   refine ⟨fun h4 => ?_, fun h4 => ?_⟩
   ·((repeat apply Exists.intro); refine And.intro (Need.mk (cs k)) ?_)
    refine ⟨fun h5 => ?_, fun _ => ⟨⟨by omega⟩, ⟨⟨rfl, rfl, rfl⟩⟩, next, ⟨by ((try dsimp only); omega)⟩⟩⟩
    rw [hr, h4, hP] at h5
    simp at h5
   ·refine ⟨fun h5 => ?_, fun _ => ⟨⟨by omega⟩, ⟨⟨rfl, rfl, rfl⟩⟩, next, ⟨by ((try dsimp only); omega)⟩⟩⟩
    rw [hr, h4] at h5
    simp at h5
  ·have h3' : leafN l k = false := by rw [← hlf]; exact h3
   have hr : rightN P l k = ((decide (0 < ruleN l k) && decide (ruleN l k < p2.length) && (kidsN l k).all (rightN P l)) && (decide ((p2.getD (ruleN l k).toNat pr0).1 = symN l k) && decide ((p2.getD (ruleN l k).toNat pr0).2.1 = (kidsN l k).map (symN l)))) := by
    have := hrn k hin h3'
    rw [this, hP]
   have hkl := hT.kidsN (k : Int)
   ((repeat apply Exists.intro); refine And.intro (Need.mk (kids_tv G l z b 1000 b c k (hT.kidsN k))) ?_)
   ((repeat apply Exists.intro); refine And.intro (Need.mk (rule_tv G l z b 1000 b c k)) ?_)
   refine ⟨fun h4 => ?_, fun h4 => ?_⟩
   ·(simp only [decide_eq_true_eq, decide_eq_false_iff_not, Bool.not_eq_true', Bool.not_eq_false'] at h4)
    ((repeat apply Exists.intro); refine And.intro (Need.mk (rule_tv G l z b 1000 b c k)) ?_)
    refine ⟨fun fine syms j g' y a' b' c' gr' rl ra' rb' rc' g n cc gr m => ∃ q : Nat, j = q ∧ q ≤ (kidsN l k).length ∧ fine = (decide (ruleN l k < (p2.length : Int)) && ((kidsN l k).take q).all (rightN P l)) ∧ syms = ((kidsN l k).take q).map (symN l) ∧ g' = (G : Int) ∧ y = l ++ z ∧ a' = 1000 ∧ b' = b ∧ c' = c ∧ gr' = (GR : Int) ∧ rl = toRL l ∧ g = (G : Int) ∧ n = (l.length : Int) ∧ cc = b ∧ gr = (GR : Int) ∧ m = ((toRL l).length : Int),
     fun _ _ j _ _ _ _ _ _ _ _ _ _ _ _ _ _ _ => (((kidsN l k).length : Int) - j).toNat, ⟨⟨rfl, rfl⟩⟩, ⟨0, rfl, by omega, by simp, rfl, (by first | trivial | exact rfl | exact ⟨rfl, rfl⟩ | omega), (by first | trivial | exact rfl | exact ⟨rfl, rfl⟩ | omega), (by first | trivial | exact rfl | exact ⟨rfl, rfl⟩ | omega), (by first | trivial | exact rfl | exact ⟨rfl, rfl⟩ | omega), (by first | trivial | exact rfl | exact ⟨rfl, rfl⟩ | omega), by simp, (by first | trivial | exact rfl | exact ⟨rfl, rfl⟩ | omega), (by first | trivial | exact rfl | exact ⟨rfl, rfl⟩ | omega), (by first | trivial | exact rfl | exact ⟨rfl, rfl⟩ | omega), (by first | trivial | exact rfl | exact ⟨rfl, rfl⟩ | omega), by simp, by simp⟩, ?_⟩
    rintro _ _ _ _ _ _ _ c _ _ ra rb rc _ _ b _ _ ⟨q, rfl, hq, rfl, rfl, rfl, rfl, rfl, rfl, rfl, rfl, rfl, rfl, rfl, rfl, rfl, rfl⟩
    refine ⟨fun h5 => ?_, fun h5 => ?_⟩
    ·(simp only [decide_eq_true_eq, decide_eq_false_iff_not, Bool.not_eq_true', Bool.not_eq_false'] at h5)
     have hq' : q < (kidsN l k).length := by omega
     have hall : ((kidsN l k).take (q + 1)).all (rightN P l) = (((kidsN l k).take q).all (rightN P l) && rightN P l ((kidsN l k).getD q 0)) := by
      rw [take_snoc (0 : Int) hq', List.all_append]; simp
     have hmap : ((kidsN l k).take (q + 1)).map (symN l) = ((kidsN l k).take q).map (symN l) ++ [symN l ((kidsN l k).getD q 0)] := by
      rw [take_snoc (0 : Int) hq', List.map_append]; rfl
     have hml : (((kidsN l k).take q).map (symN l)).length ≤ 1000 := by simp only [List.length_map, List.length_take]; omega
     refine ⟨fun h6 => ?_, fun h6 => ?_⟩
     ·refine And.intro (Need.mk ⟨by omega, by omega⟩) ?_
      ((repeat apply Exists.intro); refine And.intro (Need.mk (cr ((kidsN l k).getD q 0))) ?_)
      refine And.intro (Need.mk ⟨by omega, by omega⟩) ?_
      ((repeat apply Exists.intro); refine And.intro (Need.mk (cs ((kidsN l k).getD q 0))) ?_)
      refine ⟨⟨by unfold bigN; simp only [List.length_cons, List.length_nil]; omega⟩, ⟨by omega⟩, ⟨⟨rfl, rfl, rfl⟩⟩, ⟨q + 1, by omega, by omega, ?_, hmap.symm, (by first | trivial | exact rfl | exact ⟨rfl, rfl⟩ | omega), (by first | trivial | exact rfl | exact ⟨rfl, rfl⟩ | omega), (by first | trivial | exact rfl | exact ⟨rfl, rfl⟩ | omega), (by first | trivial | exact rfl | exact ⟨rfl, rfl⟩ | omega), (by first | trivial | exact rfl | exact ⟨rfl, rfl⟩ | omega), by simp, (by first | trivial | exact rfl | exact ⟨rfl, rfl⟩ | omega), (by first | trivial | exact rfl | exact ⟨rfl, rfl⟩ | omega), (by first | trivial | exact rfl | exact ⟨rfl, rfl⟩ | omega), (by first | trivial | exact rfl | exact ⟨rfl, rfl⟩ | omega), by simp, by simp⟩, ⟨by ((try dsimp only); omega)⟩⟩
      rw [hall, ← Bool.and_assoc, h6, Bool.true_and]
     ·refine And.intro (Need.mk ⟨by omega, by omega⟩) ?_
      ((repeat apply Exists.intro); refine And.intro (Need.mk (cs ((kidsN l k).getD q 0))) ?_)
      refine ⟨⟨by unfold bigN; simp only [List.length_cons, List.length_nil]; omega⟩, ⟨by omega⟩, ⟨⟨rfl, rfl, rfl⟩⟩, ⟨q + 1, by omega, by omega, ?_, hmap.symm, (by first | trivial | exact rfl | exact ⟨rfl, rfl⟩ | omega), (by first | trivial | exact rfl | exact ⟨rfl, rfl⟩ | omega), (by first | trivial | exact rfl | exact ⟨rfl, rfl⟩ | omega), (by first | trivial | exact rfl | exact ⟨rfl, rfl⟩ | omega), (by first | trivial | exact rfl | exact ⟨rfl, rfl⟩ | omega), by simp, (by first | trivial | exact rfl | exact ⟨rfl, rfl⟩ | omega), (by first | trivial | exact rfl | exact ⟨rfl, rfl⟩ | omega), (by first | trivial | exact rfl | exact ⟨rfl, rfl⟩ | omega), (by first | trivial | exact rfl | exact ⟨rfl, rfl⟩ | omega), by simp, by simp⟩, ⟨by ((try dsimp only); omega)⟩⟩
      rw [hall, ← Bool.and_assoc, h6, Bool.false_and]
    ·(simp only [decide_eq_true_eq, decide_eq_false_iff_not, Bool.not_eq_true', Bool.not_eq_false'] at h5)
     have : q = (kidsN l k).length := by omega
     subst this
     rw [List.take_length]
     refine ⟨fun h6 => ?_, fun h6 => ?_⟩
     ·have hru : 0 < ruleN l k ∧ ruleN l k < p2.length := by
       rw [Bool.and_eq_true] at h6
       have h7 := h6.1
       simp only [decide_eq_true_eq, decide_eq_true_eq, Bool.false_eq_true] at h7
       exact ⟨by omega, by omega⟩
      have hr' : rightN P l k = (decide ((p2.getD (ruleN l k).toNat pr0).1 = symN l k) && decide ((p2.getD (ruleN l k).toNat pr0).2.1 = (kidsN l k).map (symN l))) := by
       have h8 := (Bool.and_eq_true _ _ ▸ h6).2
       rw [hr, h8, decide_eq_true hru.1, decide_eq_true hru.2]; rfl
      ((repeat apply Exists.intro); refine And.intro (Need.mk (rule_tv G l z b 1000 b c k)) ?_)
      refine And.intro (Need.mk ⟨by omega, by omega⟩) ?_
      ((repeat apply Exists.intro); refine And.intro (Need.mk (cs k)) ?_)
      refine ⟨fun h7 => ?_, fun h7 => ?_⟩
      ·((repeat apply Exists.intro); refine And.intro (Need.mk (ints_ev (p2.getD (ruleN l k).toNat pr0).2.1 ((kidsN l k).map (symN l)) (hrl _))) ?_)
       ((repeat apply Exists.intro); refine And.intro (Need.mk (cr k)) ?_)
       have h7' : decide ((p2.getD (ruleN l k).toNat pr0).1 = symN l k) = true := h7
       refine ⟨fun h8 => ?_, fun _ => ⟨⟨by omega⟩, ⟨⟨rfl, rfl, rfl⟩⟩, next, ⟨by ((try dsimp only); omega)⟩⟩⟩
       rw [hr', h7'] at h8
       simp at h8
      ·((repeat apply Exists.intro); refine And.intro (Need.mk (cr k)) ?_)
       have h7' : decide ((p2.getD (ruleN l k).toNat pr0).1 = symN l k) = false := h7
       refine ⟨fun h8 => ?_, fun _ => ⟨⟨by omega⟩, ⟨⟨rfl, rfl, rfl⟩⟩, next, ⟨by ((try dsimp only); omega)⟩⟩⟩
       rw [hr', h7'] at h8
       simp at h8
     ·((repeat apply Exists.intro); refine And.intro (Need.mk (cr k)) ?_)
      refine ⟨fun h8 => ?_, fun _ => ⟨⟨by omega⟩, ⟨⟨rfl, rfl, rfl⟩⟩, next, ⟨by ((try dsimp only); omega)⟩⟩⟩
      have hr' : rightN P l k = false := by
       rw [hr, show (decide (0 < ruleN l k) && decide (ruleN l k < p2.length) && (kidsN l k).all (rightN P l)) = false from ?_, Bool.false_and]
       rw [← h6]
       rw [decide_eq_true h4, Bool.true_and]
      rw [hr', h6] at h8
      simp at h8
   ·(simp only [decide_eq_true_eq, decide_eq_false_iff_not, Bool.not_eq_true', Bool.not_eq_false'] at h4)
    refine ⟨fun fine syms j g' y a' b' c' gr' rl ra' rb' rc' g n cc gr m => ∃ q : Nat, j = q ∧ q ≤ (kidsN l k).length ∧ fine = (false && ((kidsN l k).take q).all (rightN P l)) ∧ syms = ((kidsN l k).take q).map (symN l) ∧ g' = (G : Int) ∧ y = l ++ z ∧ a' = 1000 ∧ b' = b ∧ c' = c ∧ gr' = (GR : Int) ∧ rl = toRL l ∧ g = (G : Int) ∧ n = (l.length : Int) ∧ cc = b ∧ gr = (GR : Int) ∧ m = ((toRL l).length : Int),
     fun _ _ j _ _ _ _ _ _ _ _ _ _ _ _ _ _ _ => (((kidsN l k).length : Int) - j).toNat, ⟨⟨rfl, rfl⟩⟩, ⟨0, rfl, by omega, by simp, rfl, (by first | trivial | exact rfl | exact ⟨rfl, rfl⟩ | omega), (by first | trivial | exact rfl | exact ⟨rfl, rfl⟩ | omega), (by first | trivial | exact rfl | exact ⟨rfl, rfl⟩ | omega), (by first | trivial | exact rfl | exact ⟨rfl, rfl⟩ | omega), (by first | trivial | exact rfl | exact ⟨rfl, rfl⟩ | omega), by simp, (by first | trivial | exact rfl | exact ⟨rfl, rfl⟩ | omega), (by first | trivial | exact rfl | exact ⟨rfl, rfl⟩ | omega), (by first | trivial | exact rfl | exact ⟨rfl, rfl⟩ | omega), (by first | trivial | exact rfl | exact ⟨rfl, rfl⟩ | omega), by simp, by simp⟩, ?_⟩
    rintro _ _ _ _ _ _ _ c _ _ ra rb rc _ _ b _ _ ⟨q, rfl, hq, rfl, rfl, rfl, rfl, rfl, rfl, rfl, rfl, rfl, rfl, rfl, rfl, rfl, rfl⟩
    refine ⟨fun h5 => ?_, fun h5 => ?_⟩
    ·(simp only [decide_eq_true_eq, decide_eq_false_iff_not, Bool.not_eq_true', Bool.not_eq_false'] at h5)
     have hq' : q < (kidsN l k).length := by omega
     have hall : ((kidsN l k).take (q + 1)).all (rightN P l) = (((kidsN l k).take q).all (rightN P l) && rightN P l ((kidsN l k).getD q 0)) := by
      rw [take_snoc (0 : Int) hq', List.all_append]; simp
     have hmap : ((kidsN l k).take (q + 1)).map (symN l) = ((kidsN l k).take q).map (symN l) ++ [symN l ((kidsN l k).getD q 0)] := by
      rw [take_snoc (0 : Int) hq', List.map_append]; rfl
     have hml : (((kidsN l k).take q).map (symN l)).length ≤ 1000 := by simp only [List.length_map, List.length_take]; omega
     refine ⟨fun h6 => ?_, fun h6 => ?_⟩
     ·refine And.intro (Need.mk ⟨by omega, by omega⟩) ?_
      ((repeat apply Exists.intro); refine And.intro (Need.mk (cr ((kidsN l k).getD q 0))) ?_)
      refine And.intro (Need.mk ⟨by omega, by omega⟩) ?_
      ((repeat apply Exists.intro); refine And.intro (Need.mk (cs ((kidsN l k).getD q 0))) ?_)
      refine ⟨⟨by unfold bigN; simp only [List.length_cons, List.length_nil]; omega⟩, ⟨by omega⟩, ⟨⟨rfl, rfl, rfl⟩⟩, ⟨q + 1, by omega, by omega, ?_, hmap.symm, (by first | trivial | exact rfl | exact ⟨rfl, rfl⟩ | omega), (by first | trivial | exact rfl | exact ⟨rfl, rfl⟩ | omega), (by first | trivial | exact rfl | exact ⟨rfl, rfl⟩ | omega), (by first | trivial | exact rfl | exact ⟨rfl, rfl⟩ | omega), (by first | trivial | exact rfl | exact ⟨rfl, rfl⟩ | omega), by simp, (by first | trivial | exact rfl | exact ⟨rfl, rfl⟩ | omega), (by first | trivial | exact rfl | exact ⟨rfl, rfl⟩ | omega), (by first | trivial | exact rfl | exact ⟨rfl, rfl⟩ | omega), (by first | trivial | exact rfl | exact ⟨rfl, rfl⟩ | omega), by simp, by simp⟩, ⟨by ((try dsimp only); omega)⟩⟩
      rw [hall, ← Bool.and_assoc, h6, Bool.true_and]
     ·refine And.intro (Need.mk ⟨by omega, by omega⟩) ?_
      ((repeat apply Exists.intro); refine And.intro (Need.mk (cs ((kidsN l k).getD q 0))) ?_)
      refine ⟨⟨by unfold bigN; simp only [List.length_cons, List.length_nil]; omega⟩, ⟨by omega⟩, ⟨⟨rfl, rfl, rfl⟩⟩, ⟨q + 1, by omega, by omega, ?_, hmap.symm, (by first | trivial | exact rfl | exact ⟨rfl, rfl⟩ | omega), (by first | trivial | exact rfl | exact ⟨rfl, rfl⟩ | omega), (by first | trivial | exact rfl | exact ⟨rfl, rfl⟩ | omega), (by first | trivial | exact rfl | exact ⟨rfl, rfl⟩ | omega), (by first | trivial | exact rfl | exact ⟨rfl, rfl⟩ | omega), by simp, (by first | trivial | exact rfl | exact ⟨rfl, rfl⟩ | omega), (by first | trivial | exact rfl | exact ⟨rfl, rfl⟩ | omega), (by first | trivial | exact rfl | exact ⟨rfl, rfl⟩ | omega), (by first | trivial | exact rfl | exact ⟨rfl, rfl⟩ | omega), by simp, by simp⟩, ⟨by ((try dsimp only); omega)⟩⟩
      rw [hall, ← Bool.and_assoc, h6, Bool.false_and]
    ·(simp only [decide_eq_true_eq, decide_eq_false_iff_not, Bool.not_eq_true', Bool.not_eq_false'] at h5)
     have : q = (kidsN l k).length := by omega
     subst this
     rw [List.take_length]
     refine ⟨fun h6 => ?_, fun h6 => ?_⟩
     ·simp at h6
     ·((repeat apply Exists.intro); refine And.intro (Need.mk (cr k)) ?_)
      refine ⟨fun h8 => ?_, fun _ => ⟨⟨by omega⟩, ⟨⟨rfl, rfl, rfl⟩⟩, next, ⟨by ((try dsimp only); omega)⟩⟩⟩
      have hr' : rightN P l k = false := by
       rw [hr, show (decide (0 < ruleN l k) && decide (ruleN l k < p2.length) && (kidsN l k).all (rightN P l)) = false from ?_, Bool.false_and]
       rw [← h6]
       rw [decide_eq_false h4, Bool.false_and]
      rw [hr', h6] at h8
      simp at h8
 obtain ⟨v, h', e, rfl, rfl⟩ := key
 exact e
end Go.Am.T
