/-
  A part of the proof of a law: see the text that states it.
-/
import Derived.Test.YtgfkdbplahpknaaR
import Derived.Test.YtgfkdbplahpknaaVcG
import Derived.Test.YtgfkdbplahpknaaVcH
import Derived.Test.YtgfkdbplahpknaaTreeCells
set_option linter.all false
namespace Go.Am.T
open Go
set_option maxRecDepth 100000
theorem toks_ev (a : List Tok) (ha : a.length ≤ 100000) : E 33 [.tv [] (.slice tTok) a, .tv [] (.slice tTok) a] [] (bv true) [] := by
 refine ev_of (vc33 a a _ ⟨fun h => by simp at h, fun _ => ?_⟩)
 refine ⟨fun i => ∃ k : Nat, i = k ∧ k ≤ a.length, fun i => ((a.length : Int) - i).toNat, ⟨0, rfl, by omega⟩, ?_⟩
 rintro _ ⟨k, rfl, hk⟩
 refine ⟨fun h => ?_, fun h => ⟨rfl, (by first | trivial | exact rfl | exact ⟨rfl, rfl⟩ | omega)⟩⟩
 (simp only [decide_eq_true_eq, decide_eq_false_iff_not, Bool.not_eq_true', Bool.not_eq_false'] at h)
 simp only [Int.toNat_natCast]
 refine ⟨⟨by omega⟩, ⟨by omega⟩, fun h2 => by simp at h2, fun _ => ⟨⟨by omega⟩, ⟨k + 1, by omega, by omega⟩, ⟨by ((try dsimp only); omega)⟩⟩⟩
theorem tr_leafK {l : List Th} (h : Tr l) : ∀ x ∈ l, x.1.2.2.2.2.1 = true → x.1.2.2.2.1 = [] := by
 have mp : ∀ l : List Th, (∀ x ∈ l, x.1.2.2.2.2.1 = true → x.1.2.2.2.1 = []) ↔ ∀ y ∈ l.map (fun x : Th => (x.1.2.2.2.2.1, x.1.2.2.2.1)), y.1 = true → y.2 = [] := fun l => by
  constructor
  ·intro h y hy
   obtain ⟨x, hx, rfl⟩ := List.mem_map.1 hy
   exact h x hx
  ·intro h x hx
   exact h _ (List.mem_map.2 ⟨x, hx, rfl⟩)
 induction h with
 | nil => intro x hx; simp at hx
 | leaf l x _ ih =>
  intro y hy
  rcases List.mem_append.1 hy with hy | hy
  ·exact ih y hy
  ·simp only [List.mem_singleton] at hy; subst hy; exact fun _ => rfl
 | node l rule sym ks _ hi _ hk ih =>
  rw [mp, map_markN (fun x => rfl) (inAll_snoc hi), ← mp]
  intro y hy
  rcases List.mem_append.1 hy with hy | hy
  ·exact ih y hy
  ·simp only [List.mem_singleton] at hy; subst hy; exact fun h => by cases h
theorem leaf_kids {l : List Th} (h : Tr l) {i : Int} (hl : leafN l i = true) : kidsN l i = [] := by
 unfold leafN kidsN at *
 unfold atN at *
 split at hl
 ·rename_i hi
  rw [if_pos hi]
  rw [inR_iff] at hi
  exact tr_leafK h _ (getD_mem' _ (by omega)) hl
 ·cases hl
theorem yield_eq {l : List Th} (h : Tr l) {i : Int} (hi : inR l i = true) : yieldN l i = (kidsN l i).flatMap (yieldN l) ++ if leafN l i = true then [tokN l i] else [] := by
 have e : ∀ ks : List Int, ((ks.flatMap (below l)).filter (leafN l)).map (tokN l) = ks.flatMap (yieldN l) := fun ks => by
  induction ks with
  | nil => rfl
  | cons k ks ih => simp only [List.flatMap_cons, List.filter_append, List.map_append, ih, yieldN]
 unfold yieldN
 rw [(tr_below h i hi).1, List.filter_append, List.map_append, e]
 congr 1
 simp only [List.filter_cons, List.filter_nil]
 split <;> rfl
theorem yield_len {l : List Th} (h : Tr l) (i : Int) : (yieldN l i).length ≤ l.length := by
 unfold yieldN
 rw [List.length_map]
 have := List.length_filter_le (leafN l) (below l i)
 have := tr_size h i
 omega
theorem yields_law (s : Sml) (ops : List Op) (hi : InR tSm s) (ho : InR (.slice tOp) ops) : E 7 [.tv [] tSm s, .tv [] (.slice tOp) ops] [] (bv true) [] := by
 have hol : ops.length ≤ maxLen := ho.1
 obtain ⟨b1, hb1, e1⟩ := Few_ev s 20 8 (sm_len hi)
 obtain ⟨b2, hb2, e2⟩ := few_ev ops hol
 obtain ⟨x0, x1, a2, a3, a4, a5, a6, _⟩ := s
 have key : EvF PP orc 7 [.tv [] tSm (x0, x1, a2, a3, a4, a5, a6, ()), .tv [] (.slice tOp) ops] [] fun v h => v = bv true ∧ h = [] := by
  refine vc7 x0 x1 a2 a3 a4 a5 a6 ops _ ?_
  ((repeat apply Exists.intro); refine And.intro (Need.mk (awake_ev)) ?_)
  ((repeat apply Exists.intro); refine And.intro (Need.mk (e1)) ?_)
  ((repeat apply Exists.intro); refine And.intro (Need.mk (e2)) ?_)
  refine ⟨fun _ => ⟨rfl, rfl⟩, fun h1 => ⟨fun _ => ⟨rfl, rfl⟩, fun h2 => ?_⟩⟩
  obtain ⟨hn, hk⟩ := hb2 (by simpa using h2)
  obtain ⟨p, hp, ep⟩ := plan_ev _ (smOK hi (hb1 (by simpa using h1)))
  obtain ⟨G, l, z, GR, b, c, H, em⟩ := made_ev p hp ops hn hk
  obtain ⟨p0, p1, p2, p3, p4, p5, _⟩ := p
  have hT := H.tr
  have hlen := H.len
  rw [List.length_append] at hlen
  ((repeat apply Exists.intro); refine And.intro (Need.mk (ep)) ?_)
  refine Or.inl ?_
  ((repeat apply Exists.intro); refine And.intro (Need.mk (em)) ?_)
  refine ⟨nofun, fun _ => ?_⟩
  refine ⟨fun i g' y a' b' c' gr' rl ra rb rc g n cc gr m => ∃ k : Nat, i = k ∧ k ≤ l.length ∧ g' = (G : Int) ∧ y = l ++ z ∧ a' = 1000 ∧ b' = b ∧ c' = c ∧ gr' = (GR : Int) ∧ rl = toRL l ∧ g = (G : Int) ∧ n = (l.length : Int) ∧ cc = b ∧ gr = (GR : Int) ∧ m = ((toRL l).length : Int),
   fun i _ _ _ _ _ _ _ _ _ _ _ _ _ _ _ => ((l.length : Int) - i).toNat, ⟨(by first | trivial | exact rfl | exact ⟨rfl, rfl⟩ | omega)⟩, ⟨0, rfl, by omega, (by first | trivial | exact rfl | exact ⟨rfl, rfl⟩ | omega), (by first | trivial | exact rfl | exact ⟨rfl, rfl⟩ | omega), (by first | trivial | exact rfl | exact ⟨rfl, rfl⟩ | omega), (by first | trivial | exact rfl | exact ⟨rfl, rfl⟩ | omega), (by first | trivial | exact rfl | exact ⟨rfl, rfl⟩ | omega), (by first | trivial | exact rfl | exact ⟨rfl, rfl⟩ | omega), (by first | trivial | exact rfl | exact ⟨rfl, rfl⟩ | omega), (by first | trivial | exact rfl | exact ⟨rfl, rfl⟩ | omega), (by first | trivial | exact rfl | exact ⟨rfl, rfl⟩ | omega), (by first | trivial | exact rfl | exact ⟨rfl, rfl⟩ | omega), (by first | trivial | exact rfl | exact ⟨rfl, rfl⟩ | omega), (by first | trivial | exact rfl | exact ⟨rfl, rfl⟩ | omega)⟩, ?_⟩
  rintro _ _ _ _ _ c _ _ ra rb rc _ _ b _ _ ⟨k, rfl, hk1, rfl, rfl, rfl, rfl, rfl, rfl, rfl, rfl, rfl, rfl, rfl, rfl⟩
  ((repeat apply Exists.intro); refine And.intro (Need.mk (len_tv G l z b 1000 b c)) ?_)
  refine ⟨fun h => ?_, fun _ => ⟨rfl, rfl⟩⟩
  (simp only [decide_eq_true_eq, decide_eq_false_iff_not, Bool.not_eq_true', Bool.not_eq_false'] at h)
  have hk' : k < l.length := by omega
  have hin : inR l (k : Int) = true := by rw [inR_iff]; omega
  ((repeat apply Exists.intro); refine And.intro (Need.mk (kids_tv G l z b 1000 b c k (hT.kidsN k))) ?_)
  refine ⟨fun all j g' y a' b' c' gr' rl ra' rb' rc' g n cc gr m => ∃ q : Nat, j = q ∧ q ≤ (kidsN l k).length ∧ all = ((kidsN l k).take q).flatMap (yieldN l) ∧ g' = (G : Int) ∧ y = l ++ z ∧ a' = 1000 ∧ b' = b ∧ c' = c ∧ gr' = (GR : Int) ∧ rl = toRL l ∧ g = (G : Int) ∧ n = (l.length : Int) ∧ cc = b ∧ gr = (GR : Int) ∧ m = ((toRL l).length : Int),
   fun _ j _ _ _ _ _ _ _ _ _ _ _ _ _ _ _ => (((kidsN l k).length : Int) - j).toNat, ⟨(by first | trivial | exact rfl | exact ⟨rfl, rfl⟩ | omega)⟩, ⟨0, rfl, by omega, (by first | trivial | exact rfl | exact ⟨rfl, rfl⟩ | omega), (by first | trivial | exact rfl | exact ⟨rfl, rfl⟩ | omega), (by first | trivial | exact rfl | exact ⟨rfl, rfl⟩ | omega), (by first | trivial | exact rfl | exact ⟨rfl, rfl⟩ | omega), (by first | trivial | exact rfl | exact ⟨rfl, rfl⟩ | omega), (by first | trivial | exact rfl | exact ⟨rfl, rfl⟩ | omega), by simp, (by first | trivial | exact rfl | exact ⟨rfl, rfl⟩ | omega), (by first | trivial | exact rfl | exact ⟨rfl, rfl⟩ | omega), (by first | trivial | exact rfl | exact ⟨rfl, rfl⟩ | omega), (by first | trivial | exact rfl | exact ⟨rfl, rfl⟩ | omega), by simp, by simp⟩, ?_⟩
  rintro _ _ _ _ _ _ c _ _ ra rb rc _ _ b _ _ ⟨q, rfl, hq, rfl, rfl, rfl, rfl, rfl, rfl, rfl, rfl, rfl, rfl, rfl, rfl, rfl⟩
  have hye := yield_eq hT hin
  have hyl := yield_len hT (k : Int)
  have hkl := hT.kidsN (k : Int)
  have hfl : ((kidsN l k).flatMap (yieldN l)).length ≤ l.length := by rw [hye, List.length_append] at hyl; omega
  refine ⟨fun h3 => ?_, fun h3 => ?_⟩
  ·(simp only [decide_eq_true_eq, decide_eq_false_iff_not, Bool.not_eq_true', Bool.not_eq_false'] at h3)
   have hq' : q < (kidsN l k).length := by omega
   have hf1 := flat_take (yieldN l) (kidsN l k) (q + 1)
   rw [take_snoc (0 : Int) hq', List.flatMap_append, List.length_append] at hf1
   simp only [List.flatMap_cons, List.flatMap_nil, List.append_nil] at hf1
   refine And.intro (Need.mk ⟨by omega, by omega⟩) ?_
   ((repeat apply Exists.intro); refine And.intro (Need.mk (yield_ev G l z b 1000 b c hT (by omega) ((kidsN l k).getD q 0))) ?_)
   refine ⟨⟨by unfold bigN; omega⟩, ⟨by omega⟩, ⟨(by first | trivial | exact rfl | exact ⟨rfl, rfl⟩ | omega)⟩, ⟨q + 1, by omega, by omega, ?_, (by first | trivial | exact rfl | exact ⟨rfl, rfl⟩ | omega), (by first | trivial | exact rfl | exact ⟨rfl, rfl⟩ | omega), (by first | trivial | exact rfl | exact ⟨rfl, rfl⟩ | omega), (by first | trivial | exact rfl | exact ⟨rfl, rfl⟩ | omega), (by first | trivial | exact rfl | exact ⟨rfl, rfl⟩ | omega), by simp, (by first | trivial | exact rfl | exact ⟨rfl, rfl⟩ | omega), (by first | trivial | exact rfl | exact ⟨rfl, rfl⟩ | omega), (by first | trivial | exact rfl | exact ⟨rfl, rfl⟩ | omega), (by first | trivial | exact rfl | exact ⟨rfl, rfl⟩ | omega), by simp, by simp⟩, ⟨by ((try dsimp only); omega)⟩⟩
   rw [take_snoc (0 : Int) hq', List.flatMap_append]; simp
  ·(simp only [decide_eq_true_eq, decide_eq_false_iff_not, Bool.not_eq_true', Bool.not_eq_false'] at h3)
   have : q = (kidsN l k).length := by omega
   subst this
   rw [List.take_length]
   ((repeat apply Exists.intro); refine And.intro (Need.mk (below_ev G l z b 1000 b c hT (by omega) k)) ?_)
   ((repeat apply Exists.intro); refine And.intro (Need.mk (yield_ev G l z b 1000 b c hT (by omega) k)) ?_)
   have nl : kidsN l k ≠ [] → yieldN l k = (kidsN l k).flatMap (yieldN l) := fun hne => by
    rw [hye]
    have : leafN l k = false := by
     cases hlf : leafN l (k : Int) with
     | false => rfl
     | true => exact absurd (leaf_kids hT hlf) hne
    rw [this]; simp
   have next : ∃ q : Nat, (k : Int) + 1 = q ∧ q ≤ l.length ∧ ((G : Nat) : Int) = (G : Int) ∧ l ++ z = l ++ z ∧ (1000 : Int) = 1000 ∧ b = b ∧ c = c ∧ (((GR : Int).toNat : Nat) : Int) = (GR : Int) ∧ toRL l = toRL l ∧ ((G : Nat) : Int) = (G : Int) ∧ ((l.length : Nat) : Int) = (l.length : Int) ∧ b = b ∧ (((GR : Int).toNat : Nat) : Int) = (GR : Int) ∧ ((((toRL l).length : Int).toNat : Nat) : Int) = ((toRL l).length : Int) :=
    ⟨k + 1, by omega, by omega, rfl, rfl, rfl, rfl, rfl, by simp, rfl, rfl, rfl, rfl, by simp, by simp⟩
   refine ⟨fun h4 => ⟨fun h5 => ?_, fun h5 => ?_⟩, fun h4 => ?_⟩
   ·(simp only [decide_eq_true_eq, decide_eq_false_iff_not, Bool.not_eq_true', Bool.not_eq_false'] at h5)
    have hk0 : kidsN l k = [] := List.length_eq_zero_iff.1 (by omega)
    have hy0 : yieldN l k = if leafN l k = true then [tokN l k] else [] := by rw [hye, hk0]; rfl
    refine ⟨fun h6 => ?_, fun _ => ⟨fun h6 => ?_, fun h6 => ⟨⟨by omega⟩, ⟨(by first | trivial | exact rfl | exact ⟨rfl, rfl⟩ | omega)⟩, next, ⟨by ((try dsimp only); omega)⟩⟩⟩⟩
    ·(simp only [decide_eq_true_eq, decide_eq_false_iff_not, Bool.not_eq_true', Bool.not_eq_false'] at h6)
     rw [hy0] at h6
     split at h6 <;> simp at h6
    ·(simp only [decide_eq_true_eq, decide_eq_false_iff_not, Bool.not_eq_true', Bool.not_eq_false'] at h6)
     refine And.intro (Need.mk ⟨by omega, by omega⟩) ?_
     have ct := tok_tv G l z b 1000 b c k
     obtain ⟨⟨t0, t1, t2, _⟩, ht⟩ : ∃ t, t = tokN l k := ⟨_, rfl⟩
     rw [← ht] at ct
     ((repeat apply Exists.intro); refine And.intro (Need.mk (ct)) ?_)
     have hl : leafN l k = true := by
      cases hlf : leafN l (k : Int) with
      | true => rfl
      | false => rw [hy0, hlf] at h6; simp at h6
     have hg : yieldN l k = [(t0, t1, t2, ())] := by rw [hy0, if_pos hl, ← ht]
     refine ⟨fun h7 => ?_, fun _ => ⟨⟨by omega⟩, ⟨(by first | trivial | exact rfl | exact ⟨rfl, rfl⟩ | omega)⟩, next, ⟨by ((try dsimp only); omega)⟩⟩⟩
     rw [hg] at h7
     simp at h7
   ·(simp only [decide_eq_true_eq, decide_eq_false_iff_not, Bool.not_eq_true', Bool.not_eq_false'] at h5)
    have hne : kidsN l k ≠ [] := fun e => h5 (by rw [e]; rfl)
    rw [nl hne]
    ((repeat apply Exists.intro); refine And.intro (Need.mk (toks_ev ((kidsN l k).flatMap (yieldN l)) (by omega))) ?_)
    exact ⟨fun h7 => by simp at h7, fun _ => ⟨⟨by omega⟩, ⟨(by first | trivial | exact rfl | exact ⟨rfl, rfl⟩ | omega)⟩, next, ⟨by ((try dsimp only); omega)⟩⟩⟩
   ·(simp only [decide_eq_true_eq, decide_eq_false_iff_not, Bool.not_eq_true', Bool.not_eq_false'] at h4)
    have hne : kidsN l k ≠ [] := fun e => h4 (by rw [(tr_below hT k hin).1, e]; rfl)
    rw [nl hne]
    ((repeat apply Exists.intro); refine And.intro (Need.mk (toks_ev ((kidsN l k).flatMap (yieldN l)) (by omega))) ?_)
    exact ⟨fun h7 => by simp at h7, fun _ => ⟨⟨by omega⟩, ⟨(by first | trivial | exact rfl | exact ⟨rfl, rfl⟩ | omega)⟩, next, ⟨by ((try dsimp only); omega)⟩⟩⟩
 obtain ⟨v, h', e, rfl, rfl⟩ := key
 exact e
end Go.Am.T
