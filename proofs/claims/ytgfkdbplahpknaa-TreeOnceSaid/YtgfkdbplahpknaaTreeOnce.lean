/-
  A part of the proof of a law: see the text that states it.
-/
import Derived.Test.YtgfkdbplahpknaaR
import Derived.Test.YtgfkdbplahpknaaVcL
import Derived.Test.YtgfkdbplahpknaaTreeCells
set_option linter.all false
namespace Go.Am.T
open Go
set_option maxRecDepth 100000
theorem kidsN_K {l : List Th} {k : Nat} (hk : k < l.length) : kidsN l k = (l.map kd).getD k [] := by
 rw [kidsN_map, if_pos (by rw [inR_iff]; omega), Int.toNat_natCast]
theorem tr_kids {l : List Th} (h : Tr l) : (l.map kd).flatten.Nodup ∧ (∀ j, inR l j = true → (belN l j = true ↔ j ∈ (l.map kd).flatten)) ∧ ∀ j ∈ (l.map kd).flatten, inR l j = true := by
 induction h with
 | nil => refine ⟨by simp, fun j hj => by simp [inR] at hj; omega, by simp⟩
 | leaf l x _ ih =>
  obtain ⟨h1, h2, h3⟩ := ih
  have he := leaf_kd l x
  rw [he, List.flatten_append]
  simp only [List.flatten_cons, List.flatten_nil, List.append_nil]
  refine ⟨h1, fun j hj => ?_, fun j hj => ext_inR he (h3 j hj)⟩
  by_cases hi : inR l j = true
  ·rw [belN_snoc hi]; exact h2 j hi
  ·have : j = l.length := by rw [inR_iff] at *; simp at hj; omega
   subst this
   rw [belN_last]
   exact ⟨fun h => (by cases h), fun h => absurd (h3 _ h) hi⟩
 | node l rule sym ks _ hi0 ht _ ih =>
  obtain ⟨h1, h2, h3⟩ := ih
  obtain ⟨t1, t2⟩ := twF_ok ht
  have hin := List.all_eq_true.1 hi0
  have he := node_kd rule sym hi0
  rw [he, List.flatten_append]
  simp only [List.flatten_cons, List.flatten_nil, List.append_nil]
  refine ⟨List.nodup_append.2 ⟨h1, t2, fun a ha b hb e => ?_⟩, fun j hj => ?_, fun j hj => ?_⟩
  ·subst e
   have := (h2 a (hin a hb)).2 ha
   rw [t1 a hb] at this; cases this
  ·rw [List.mem_append]
   by_cases hi : inR l j = true
   ·rw [belN_markN (inAll_snoc hi0) _ (by rw [inR_iff] at *; simp; omega), belN_snoc hi, Bool.or_eq_true, decide_eq_true_eq, h2 j hi]
   ·have : j = l.length := by rw [inR_iff] at *; rw [ext_len he] at hj; omega
    subst this
    rw [belN_markN (inAll_snoc hi0) _ (by rw [inR_iff]; simp; omega), belN_last]
    simp only [Bool.false_or, decide_eq_true_eq]
    exact ⟨.inr, fun h => h.elim (fun h => absurd (h3 _ h) hi) id⟩
  ·rcases List.mem_append.1 hj with hj | hj
   ·exact ext_inR he (h3 j hj)
   ·exact ext_inR he (hin j hj)
theorem flat_snoc {K : List qT2} {k : Nat} (hk : k < K.length) : (K.take (k + 1)).flatten = (K.take k).flatten ++ K.getD k [] := by
 rw [take_snoc [] hk, List.flatten_append]; simp
theorem kid_new {K : List qT2} (h : K.flatten.Nodup) {k q : Nat} (hk : k < K.length) (hq : q < (K.getD k []).length) : (K.getD k []).getD q 0 ∉ (K.take k).flatten ++ (K.getD k []).take q := by
 have e1 : K.flatten = (K.take (k + 1)).flatten ++ (K.drop (k + 1)).flatten := by rw [← List.flatten_append, List.take_append_drop]
 have e2 : K.getD k [] = (K.getD k []).take (q + 1) ++ (K.getD k []).drop (q + 1) := (List.take_append_drop _ _).symm
 rw [e1, flat_snoc hk] at h
 have h1 := (List.nodup_append.1 h).1
 rw [e2, take_snoc (0 : Int) hq] at h1
 intro hm
 have h2 : ((K.take k).flatten ++ (K.getD k []).take q ++ ([(K.getD k []).getD q 0] ++ (K.getD k []).drop (q + 1))).Nodup := by
  simpa [List.append_assoc] using h1
 exact (List.nodup_append.1 h2).2.2 _ hm _ (by simp) rfl
theorem rootS_mono {f : Nat → Nat} {b : Nat → Bool} {n : Nat} : ∀ {m : Nat}, n ≤ m → rootS f b n ≤ rootS f b m
  | 0, h => by have : n = 0 := by omega
               subst this; exact Nat.le_refl _
  | m + 1, h => by
    by_cases e : n = m + 1
    · subst e; exact Nat.le_refl _
    · have := rootS_mono (f := f) (b := b) (n := n) (m := m) (by omega)
      rw [rootS_succ]; omega
theorem sum_count (j n : Nat) : ((List.range n).map fun i : Nat => List.count (j : Int) [(i : Int)]).sum = if j < n then 1 else 0 := by
 induction n with
 | zero => rfl
 | succ n ih =>
  rw [List.range_succ, List.map_append, List.sum_append, ih]
  simp only [List.map_cons, List.map_nil, List.sum_cons, List.sum_nil, List.count_cons, List.count_nil]
  by_cases e : n = j
  ·subst e; simp
  ·have h1 : ¬ ((n : Int) = (j : Int)) := by omega
   simp only [beq_iff_eq, h1, if_false]
   split <;> split <;> omega
theorem tr_once {l : List Th} (h : Tr l) {j : Nat} (hj : j < l.length) : rootS (fun i => List.count (j : Int) (below l i)) (fun i => belN l i) l.length = 1 := by
 have := tr_roots h (fun m => List.count (j : Int) m) rfl (fun a b => List.count_append)
 rw [this, sum_count, if_pos hj]
theorem set_getD {S : List Int} {x j : Nat} (hx : x < S.length) (hj : j < S.length) (v : Int) : (S.set x v).getD j 0 = if x = j then v else S.getD j 0 := by
 simp only [List.getD_eq_getElem?_getD, List.getElem?_set, hx]
 split <;> simp_all
theorem set_getDB {S : List Bool} {x j : Nat} (hx : x < S.length) (hj : j < S.length) (v : Bool) : (S.set x v).getD j false = if x = j then v else S.getD j false := by
 simp only [List.getD_eq_getElem?_getD, List.getElem?_set, hx]
 split <;> simp_all
theorem count_snoc {l : List Int} {q : Nat} (hq : q < l.length) (j : Int) : List.count j (l.take (q + 1)) = List.count j (l.take q) + if l.getD q 0 = j then 1 else 0 := by
 rw [take_snoc (0 : Int) hq, List.count_append, List.count_cons, List.count_nil]
 simp only [beq_iff_eq, Nat.zero_add]
theorem once_law (s : Sml) (ops : List Op) (hi : InR tSm s) (ho : InR (.slice tOp) ops) : E 4 [.tv [] tSm s, .tv [] (.slice tOp) ops] [] (bv true) [] := by
  have hol : ops.length ≤ maxLen := ho.1
  obtain ⟨b1, hb1, e1⟩ := Few_ev s 20 8 (sm_len hi)
  obtain ⟨b2, hb2, e2⟩ := few_ev ops hol
  obtain ⟨x0, x1, a2, a3, a4, a5, a6, _⟩ := s
  have key : EvF PP orc 4 [.tv [] tSm (x0, x1, a2, a3, a4, a5, a6, ()), .tv [] (.slice tOp) ops] [] fun v h => v = bv true ∧ h = [] := by
    refine vc4 x0 x1 a2 a3 a4 a5 a6 ops _ ?_
    ((repeat apply Exists.intro); refine And.intro (Need.mk (awake_ev)) ?_)
    ((repeat apply Exists.intro); refine And.intro (Need.mk (e1)) ?_)
    ((repeat apply Exists.intro); refine And.intro (Need.mk (e2)) ?_)
    refine ⟨fun _ => ⟨rfl, rfl⟩, fun h1 => ⟨fun _ => ⟨rfl, rfl⟩, fun h2 => ?_⟩⟩
    obtain ⟨hn, hk⟩ := hb2 (by simpa using h2)
    obtain ⟨p, hp, ep⟩ := plan_ev _ (smOK hi (hb1 (by simpa using h1)))
    obtain ⟨G, l, z, GR, b, c, H, em⟩ := made_ev p hp ops hn hk
    obtain ⟨p0, p1, p2, p3, p4, p5, _⟩ := p
    have hT := H.tr
    have hlen := H.len
    rw [List.length_append] at hlen
    obtain ⟨kn, kb, ki⟩ := tr_kids hT
    have hK : (l.map kd).length = l.length := by simp
    ((repeat apply Exists.intro); refine And.intro (Need.mk (ep)) ?_)
    refine Or.inl ?_
    ((repeat apply Exists.intro); refine And.intro (Need.mk (em)) ?_)
    refine ⟨nofun, fun _ => ?_⟩
    ((repeat apply Exists.intro); refine And.intro (Need.mk (len_tv G l z b 1000 b c)) ?_)
    refine ⟨⟨rfl, by omega, by omega⟩, ⟨rfl, by omega, by omega⟩, ?_⟩
    simp only [Int.toNat_natCast]
    refine ⟨fun i γU U γS S g' y a' b' c' gr' rl ra rb rc g n cc gr m => ∃ k : Nat, i = k ∧ k ≤ l.length ∧ γU = 0 ∧ U.length = l.length ∧ (∀ j : Nat, j < l.length → U.getD j false = decide ((j : Int) ∈ ((l.map kd).take k).flatten)) ∧ γS = 0 ∧ S = List.replicate l.length 0 ∧ g' = (G : Int) ∧ y = l ++ z ∧ a' = 1000 ∧ b' = b ∧ c' = c ∧ gr' = (GR : Int) ∧ rl = toRL l ∧ g = (G : Int) ∧ n = (l.length : Int) ∧ cc = b ∧ gr = (GR : Int) ∧ m = ((toRL l).length : Int),
      fun i _ _ _ _ _ _ _ _ _ _ _ _ _ _ _ _ _ _ _ => ((l.length : Int) - i).toNat, ⟨(by simp )⟩, ⟨0, rfl, by omega, (by first | trivial | exact rfl | exact ⟨rfl, rfl⟩ | omega), by simp, ?_, (by first | trivial | exact rfl | exact ⟨rfl, rfl⟩ | omega), (by first | trivial | exact rfl | exact ⟨rfl, rfl⟩ | omega), (by first | trivial | exact rfl | exact ⟨rfl, rfl⟩ | omega), (by first | trivial | exact rfl | exact ⟨rfl, rfl⟩ | omega), (by first | trivial | exact rfl | exact ⟨rfl, rfl⟩ | omega), (by first | trivial | exact rfl | exact ⟨rfl, rfl⟩ | omega), (by first | trivial | exact rfl | exact ⟨rfl, rfl⟩ | omega), (by first | trivial | exact rfl | exact ⟨rfl, rfl⟩ | omega), (by first | trivial | exact rfl | exact ⟨rfl, rfl⟩ | omega), (by first | trivial | exact rfl | exact ⟨rfl, rfl⟩ | omega), (by first | trivial | exact rfl | exact ⟨rfl, rfl⟩ | omega), (by first | trivial | exact rfl | exact ⟨rfl, rfl⟩ | omega), (by first | trivial | exact rfl | exact ⟨rfl, rfl⟩ | omega), (by first | trivial | exact rfl | exact ⟨rfl, rfl⟩ | omega)⟩, ?_⟩
    · intro j hj
      simp [List.getD_eq_getElem?_getD, hj]
    rintro _ _ U _ _ _ _ _ _ c _ _ ra rb rc _ _ b _ _ ⟨k, rfl, hk1, rfl, hU, hUv, rfl, rfl, rfl, rfl, rfl, rfl, rfl, rfl, rfl, rfl, rfl, rfl, rfl, rfl⟩
    refine ⟨fun h => ?_, fun h => ?_⟩
    · (simp only [decide_eq_true_eq, decide_eq_false_iff_not, Bool.not_eq_true', Bool.not_eq_false'] at h)
      have hk' : k < l.length := by omega
      have hkK : kidsN l k = (l.map kd).getD k [] := kidsN_K hk'
      ((repeat apply Exists.intro); refine And.intro (Need.mk (kids_tv G l z b 1000 b c k (hT.kidsN k))) ?_)
      have hkl := hT.kidsN (k : Int)
      refine ⟨fun i γU U γS S g' y a' b' c' gr' rl ra rb rc g n cc gr m => ∃ q : Nat, i = q ∧ q ≤ (kidsN l k).length ∧ γU = 0 ∧ U.length = l.length ∧ (∀ j : Nat, j < l.length → U.getD j false = decide ((j : Int) ∈ ((l.map kd).take k).flatten ++ (kidsN l k).take q)) ∧ γS = 0 ∧ S = List.replicate l.length 0 ∧ g' = (G : Int) ∧ y = l ++ z ∧ a' = 1000 ∧ b' = b ∧ c' = c ∧ gr' = (GR : Int) ∧ rl = toRL l ∧ g = (G : Int) ∧ n = (l.length : Int) ∧ cc = b ∧ gr = (GR : Int) ∧ m = ((toRL l).length : Int),
        fun i _ _ _ _ _ _ _ _ _ _ _ _ _ _ _ _ _ _ _ => (((kidsN l k).length : Int) - i).toNat, ⟨(by simp )⟩, ⟨0, rfl, by omega, by simp, hU, by simpa using hUv, by simp, (by first | trivial | exact rfl | exact ⟨rfl, rfl⟩ | omega), by simp, (by first | trivial | exact rfl | exact ⟨rfl, rfl⟩ | omega), (by first | trivial | exact rfl | exact ⟨rfl, rfl⟩ | omega), (by first | trivial | exact rfl | exact ⟨rfl, rfl⟩ | omega), (by first | trivial | exact rfl | exact ⟨rfl, rfl⟩ | omega), by simp, (by first | trivial | exact rfl | exact ⟨rfl, rfl⟩ | omega), by simp, by simp, (by first | trivial | exact rfl | exact ⟨rfl, rfl⟩ | omega), by simp, by simp⟩, ?_⟩
      rintro _ _ U _ _ _ _ _ _ c _ _ ra rb rc _ _ b _ _ ⟨q, rfl, hq, rfl, hU, hUv, rfl, rfl, rfl, rfl, rfl, rfl, rfl, rfl, rfl, rfl, rfl, rfl, rfl, rfl⟩
      refine ⟨fun h3 => ?_, fun h3 => ?_⟩
      · have hq' : q < (kidsN l k).length := by have : (q : Int) < ((kidsN l k).length : Int) := of_decide_eq_true h3
                                                omega
        have hlt := (tr_below hT k (by rw [inR_iff]; omega)).2 _ (getD_mem' (0 : Int) hq')
        have hx : (List.getD (kidsN l k) q 0).toNat < l.length := by omega
        have hnew := kid_new kn (k := k) (q := q) (by omega) (by rw [← hkK]; exact hq')
        rw [← hkK] at hnew
        have hval := hUv _ hx
        rw [Int.toNat_of_nonneg hlt.1] at hval
        refine And.intro (Need.mk (show 0 ≤ (q : Int) ∧ (q : Int) < ((kidsN l k).length : Int) by omega)) ?_
        refine ⟨fun h4 => absurd (of_decide_eq_true h4) (show ¬ (kidsN l k).getD (Int.toNat (q : Int)) 0 < 0 by rw [Int.toNat_natCast]; omega), fun _ => ?_⟩
        refine And.intro (Need.mk (show 0 ≤ (q : Int) ∧ (q : Int) < ((kidsN l k).length : Int) by omega)) ?_
        refine ⟨fun h4 => absurd (of_decide_eq_true h4) (show ¬ (k : Int) ≤ (kidsN l k).getD (Int.toNat (q : Int)) 0 by rw [Int.toNat_natCast]; omega), fun _ => ?_⟩
        refine And.intro (Need.mk (show 0 ≤ (q : Int) ∧ (q : Int) < ((kidsN l k).length : Int) by omega)) ?_
        refine And.intro (Need.mk (show 0 ≤ (kidsN l k).getD (Int.toNat (q : Int)) 0 ∧ (kidsN l k).getD (Int.toNat (q : Int)) 0 < ((l.length : Nat) : Int) by rw [Int.toNat_natCast]; omega)) ?_
        refine And.intro (Need.mk (by rfl)) ?_
        refine And.intro (Need.mk (show 0 + Int.toNat ((kidsN l k).getD (Int.toNat (q : Int)) 0) < U.length by rw [Int.toNat_natCast, hU]; omega)) ?_
        refine ⟨fun h4 => ?_, fun _ => ?_⟩
        · have h4' : U.getD (0 + Int.toNat ((kidsN l k).getD (Int.toNat (q : Int)) 0)) false = true := h4
          rw [Nat.zero_add, Int.toNat_natCast, hval] at h4'
          exact absurd (of_decide_eq_true h4') hnew
        · refine And.intro (Need.mk (show 0 ≤ (q : Int) ∧ (q : Int) < ((kidsN l k).length : Int) by omega)) ?_
          refine And.intro (Need.mk (show 0 ≤ (kidsN l k).getD (Int.toNat (q : Int)) 0 ∧ (kidsN l k).getD (Int.toNat (q : Int)) 0 < ((l.length : Nat) : Int) by rw [Int.toNat_natCast]; omega)) ?_
          refine And.intro (Need.mk (by rfl)) ?_
          refine And.intro (Need.mk (show 0 + Int.toNat ((kidsN l k).getD (Int.toNat (q : Int)) 0) < U.length by rw [Int.toNat_natCast, hU]; omega)) ?_
          refine And.intro (Need.mk (by omega)) ?_
          refine And.intro (Need.mk ⟨by simp, (by simp )⟩) ?_
          refine And.intro ⟨q + 1, by omega, by omega, by simp, by simp [hU], ?_, by simp, (by first | trivial | exact rfl | exact ⟨rfl, rfl⟩ | omega), by simp, (by first | trivial | exact rfl | exact ⟨rfl, rfl⟩ | omega), (by first | trivial | exact rfl | exact ⟨rfl, rfl⟩ | omega), (by first | trivial | exact rfl | exact ⟨rfl, rfl⟩ | omega), (by first | trivial | exact rfl | exact ⟨rfl, rfl⟩ | omega), by simp, (by first | trivial | exact rfl | exact ⟨rfl, rfl⟩ | omega), by simp, by simp, (by first | trivial | exact rfl | exact ⟨rfl, rfl⟩ | omega), by simp, by simp⟩ (Need.mk (show (((kidsN l k).length : Int) - ((q : Int) + 1)).toNat < (((kidsN l k).length : Int) - (q : Int)).toNat by omega))
          intro j hj
          show (U.set (0 + Int.toNat ((kidsN l k).getD (Int.toNat (q : Int)) 0)) true).getD j false = _
          rw [Nat.zero_add, Int.toNat_natCast, set_getDB (by rw [hU]; exact hx) (by rw [hU]; exact hj), take_snoc (0 : Int) hq', ← List.append_assoc]
          by_cases e : ((kidsN l k).getD q 0).toNat = j
          · have e2 : (j : Int) = (kidsN l k).getD q 0 := by omega
            rw [if_pos e, e2]; simp
          · have e2 : ¬ (j : Int) = (kidsN l k).getD q 0 := by omega
            rw [if_neg e, hUv j hj]
            rw [Bool.eq_iff_iff]
            simp only [decide_eq_true_eq, List.mem_append, List.mem_singleton]
            constructor
            · exact fun w => Or.inl w
            · rintro (w | w)
              · exact w
              · exact absurd w e2
      · have hq' : q = (kidsN l k).length := by have : ¬ (q : Int) < ((kidsN l k).length : Int) := of_decide_eq_false h3
                                                omega
        subst hq'
        rw [List.take_length, hkK, ← flat_snoc (by omega)] at hUv
        refine ⟨⟨by omega⟩, ⟨(by simp )⟩, ⟨k + 1, by omega, by omega, by simp, hU, hUv, by simp, (by first | trivial | exact rfl | exact ⟨rfl, rfl⟩ | omega), by simp, (by first | trivial | exact rfl | exact ⟨rfl, rfl⟩ | omega), (by first | trivial | exact rfl | exact ⟨rfl, rfl⟩ | omega), (by first | trivial | exact rfl | exact ⟨rfl, rfl⟩ | omega), (by first | trivial | exact rfl | exact ⟨rfl, rfl⟩ | omega), by simp, (by first | trivial | exact rfl | exact ⟨rfl, rfl⟩ | omega), by simp, by simp, (by first | trivial | exact rfl | exact ⟨rfl, rfl⟩ | omega), by simp, by simp⟩, ⟨by ((try dsimp only); omega)⟩⟩
    (simp only [decide_eq_true_eq, decide_eq_false_iff_not, Bool.not_eq_true', Bool.not_eq_false'] at h)
    have hkl : k = l.length := by omega
    subst hkl
    have hall : ∀ j : Nat, j < l.length → U.getD j false = belN l j := fun j hj => by
      rw [hUv j hj, ← hK, List.take_length, Bool.eq_iff_iff, decide_eq_true_eq]
      exact (kb j (by rw [inR_iff]; omega)).symm
    clear hUv
    refine ⟨fun i γU V γS S g' y a' b' c' gr' rl ra rb rc g n cc gr m => ∃ k : Nat, i = k ∧ k ≤ l.length ∧ γU = 0 ∧ V = U ∧ γS = 0 ∧ S.length = l.length ∧ (∀ j : Nat, j < l.length → S.getD j 0 = (rootS (fun i => List.count (j : Int) (below l i)) (fun i => belN l i) k : Nat)) ∧ g' = (G : Int) ∧ y = l ++ z ∧ a' = 1000 ∧ b' = b ∧ c' = c ∧ gr' = (GR : Int) ∧ rl = toRL l ∧ g = (G : Int) ∧ n = (l.length : Int) ∧ cc = b ∧ gr = (GR : Int) ∧ m = ((toRL l).length : Int),
      fun i _ _ _ _ _ _ _ _ _ _ _ _ _ _ _ _ _ _ _ => ((l.length : Int) - i).toNat, ⟨(by simp )⟩, ⟨0, rfl, by omega, by simp, (by first | trivial | exact rfl | exact ⟨rfl, rfl⟩ | omega), by simp, by simp, ?_, by simp, (by first | trivial | exact rfl | exact ⟨rfl, rfl⟩ | omega), (by first | trivial | exact rfl | exact ⟨rfl, rfl⟩ | omega), (by first | trivial | exact rfl | exact ⟨rfl, rfl⟩ | omega), (by first | trivial | exact rfl | exact ⟨rfl, rfl⟩ | omega), by simp, (by first | trivial | exact rfl | exact ⟨rfl, rfl⟩ | omega), by simp, by simp, (by first | trivial | exact rfl | exact ⟨rfl, rfl⟩ | omega), by simp, by simp⟩, ?_⟩
    · intro j hj
      simp [List.getD_eq_getElem?_getD, hj, rootS]
    rintro _ _ U _ S _ _ _ _ c _ _ ra rb rc _ _ b _ _ ⟨k, rfl, hk1, rfl, rfl, rfl, hS, hSv, rfl, rfl, rfl, rfl, rfl, rfl, rfl, rfl, rfl, rfl, rfl, rfl⟩
    refine ⟨fun h => ?_, fun h => ?_⟩
    · (simp only [decide_eq_true_eq, decide_eq_false_iff_not, Bool.not_eq_true', Bool.not_eq_false'] at h)
      have hk' : k < l.length := by omega
      have hin : inR l (k : Int) = true := by rw [inR_iff]; omega
      refine And.intro (Need.mk ⟨by omega, by omega⟩) ?_
      refine And.intro (Need.mk (by rfl)) ?_
      refine And.intro (Need.mk (show 0 + Int.toNat (k : Int) < U.length by rw [hU]; omega)) ?_
      have hbk := hall k hk'
      refine ⟨fun h3 => ?_, fun h3 => ?_⟩
      · have h3' : belN l k = true := by rw [← hbk]; simpa using h3
        refine ⟨⟨by omega⟩, ⟨(by simp )⟩, ⟨k + 1, by omega, by omega, by simp, (by first | trivial | exact rfl | exact ⟨rfl, rfl⟩ | omega), by simp, hS, ?_, by simp, (by first | trivial | exact rfl | exact ⟨rfl, rfl⟩ | omega), (by first | trivial | exact rfl | exact ⟨rfl, rfl⟩ | omega), (by first | trivial | exact rfl | exact ⟨rfl, rfl⟩ | omega), (by first | trivial | exact rfl | exact ⟨rfl, rfl⟩ | omega), by simp, (by first | trivial | exact rfl | exact ⟨rfl, rfl⟩ | omega), by simp, by simp, (by first | trivial | exact rfl | exact ⟨rfl, rfl⟩ | omega), by simp, by simp⟩, ⟨by ((try dsimp only); omega)⟩⟩
        intro j hj
        rw [hSv j hj, rootS_succ, if_pos h3', Nat.add_zero]
      · have h3' : belN l k = false := by rw [← hbk]; simpa using h3
        ((repeat apply Exists.intro); refine And.intro (Need.mk (below_ev G l z b 1000 b c hT (by omega) k)) ?_)
        have hsz := tr_size hT (k : Int)
        refine ⟨fun i γU V γS S g' y a' b' c' gr' rl ra rb rc g n cc gr m => ∃ q : Nat, i = q ∧ q ≤ (below l k).length ∧ γU = 0 ∧ V = U ∧ γS = 0 ∧ S.length = l.length ∧ (∀ j : Nat, j < l.length → S.getD j 0 = (rootS (fun i => List.count (j : Int) (below l i)) (fun i => belN l i) k + List.count (j : Int) ((below l k).take q) : Nat)) ∧ g' = (G : Int) ∧ y = l ++ z ∧ a' = 1000 ∧ b' = b ∧ c' = c ∧ gr' = (GR : Int) ∧ rl = toRL l ∧ g = (G : Int) ∧ n = (l.length : Int) ∧ cc = b ∧ gr = (GR : Int) ∧ m = ((toRL l).length : Int),
          fun i _ _ _ _ _ _ _ _ _ _ _ _ _ _ _ _ _ _ _ => (((below l k).length : Int) - i).toNat, ⟨(by simp )⟩, ⟨0, rfl, by omega, by simp, (by first | trivial | exact rfl | exact ⟨rfl, rfl⟩ | omega), by simp, hS, by simpa using hSv, by simp, (by first | trivial | exact rfl | exact ⟨rfl, rfl⟩ | omega), (by first | trivial | exact rfl | exact ⟨rfl, rfl⟩ | omega), (by first | trivial | exact rfl | exact ⟨rfl, rfl⟩ | omega), (by first | trivial | exact rfl | exact ⟨rfl, rfl⟩ | omega), by simp, (by first | trivial | exact rfl | exact ⟨rfl, rfl⟩ | omega), by simp, by simp, (by first | trivial | exact rfl | exact ⟨rfl, rfl⟩ | omega), by simp, by simp⟩, ?_⟩
        rintro _ _ U _ S _ _ _ _ c _ _ ra rb rc _ _ b _ _ ⟨q, rfl, hq, rfl, rfl, rfl, hS, hSv, rfl, rfl, rfl, rfl, rfl, rfl, rfl, rfl, rfl, rfl, rfl, rfl⟩
        refine ⟨fun h4 => ?_, fun h4 => ?_⟩
        · (simp only [decide_eq_true_eq, decide_eq_false_iff_not, Bool.not_eq_true', Bool.not_eq_false'] at h4)
          have hq' : q < (below l k).length := by omega
          have hlt := tr_lt hT k k (by simp) _ (getD_mem' (0 : Int) hq')
          have hx : ((below l k).getD q 0).toNat < l.length := by omega
          have hv := hSv _ hx
          have hr1 := tr_once hT hx
          have hr2 := rootS_mono (f := fun i => List.count (((below l k).getD q 0).toNat : Int) (below l i)) (b := fun i => belN l i) (show k ≤ l.length by omega)
          have hr3 := List.count_le_length (a := (((below l k).getD q 0).toNat : Int)) (l := (below l k).take q)
          rw [List.length_take] at hr3
          simp only [Int.toNat_natCast, Nat.zero_add]
          refine ⟨⟨by omega⟩, fun h5 => by (simp only [decide_eq_true_eq, decide_eq_false_iff_not, Bool.not_eq_true', Bool.not_eq_false'] at h5); omega, fun _ => ⟨⟨by omega⟩, fun h5 => by (simp only [decide_eq_true_eq, decide_eq_false_iff_not, Bool.not_eq_true', Bool.not_eq_false'] at h5); omega, fun _ => ⟨⟨by omega⟩, ⟨by omega⟩, ⟨by rfl⟩, ⟨by omega⟩, ⟨by omega⟩, ⟨by omega⟩, ⟨by rfl⟩, ⟨by omega⟩, ⟨by omega⟩, ⟨⟨by trivial, by simp, by trivial, by trivial⟩⟩, ⟨q + 1, by omega, by omega, by simp, (by first | trivial | exact rfl | exact ⟨rfl, rfl⟩ | omega), by simp, by simp [hS], ?_, by simp, (by first | trivial | exact rfl | exact ⟨rfl, rfl⟩ | omega), (by first | trivial | exact rfl | exact ⟨rfl, rfl⟩ | omega), (by first | trivial | exact rfl | exact ⟨rfl, rfl⟩ | omega), (by first | trivial | exact rfl | exact ⟨rfl, rfl⟩ | omega), by simp, (by first | trivial | exact rfl | exact ⟨rfl, rfl⟩ | omega), by simp, by simp, (by first | trivial | exact rfl | exact ⟨rfl, rfl⟩ | omega), by simp, by simp⟩, ⟨by ((try dsimp only); omega)⟩⟩⟩⟩
          intro j hj
          rw [set_getD (by omega) (by omega), count_snoc hq']
          by_cases e : ((below l k).getD q 0).toNat = j
          · subst e
            have e2 : ((below l k).getD q 0) = (((below l k).getD q 0).toNat : Int) := by omega
            rw [if_pos rfl, if_pos e2, hv]; omega
          · have e2 : ¬ (below l k).getD q 0 = (j : Int) := by omega
            rw [if_neg e, if_neg e2, hSv j hj]; omega
        · (simp only [decide_eq_true_eq, decide_eq_false_iff_not, Bool.not_eq_true', Bool.not_eq_false'] at h4)
          have hq' : q = (below l k).length := by omega
          subst hq'
          rw [List.take_length] at hSv
          have hbe := (tr_below hT k hin).1
          have hne : (below l k).length ≠ 0 := by rw [hbe]; simp
          have hlast : (below l k).getD (Int.toNat (((below l k).length : Int) - 1)) 0 = k := by
            have e : Int.toNat (((below l k).length : Int) - 1) = ((kidsN l k).flatMap (below l)).length := by rw [hbe]; simp
            rw [e]
            conv => lhs; rw [hbe]
            exact getD_last _ _ _ rfl
          refine ⟨fun h5 => by (simp only [decide_eq_true_eq, decide_eq_false_iff_not, Bool.not_eq_true', Bool.not_eq_false'] at h5); omega, fun _ => ⟨⟨by omega⟩, ⟨by omega⟩, fun h5 => by (simp only [decide_eq_true_eq, decide_eq_false_iff_not, Bool.not_eq_true', Bool.not_eq_false'] at h5); exact absurd hlast h5, fun _ => ⟨⟨by omega⟩, ⟨(by simp )⟩, ⟨k + 1, by omega, by omega, by simp, (by first | trivial | exact rfl | exact ⟨rfl, rfl⟩ | omega), by simp, hS, ?_, by simp, (by first | trivial | exact rfl | exact ⟨rfl, rfl⟩ | omega), (by first | trivial | exact rfl | exact ⟨rfl, rfl⟩ | omega), (by first | trivial | exact rfl | exact ⟨rfl, rfl⟩ | omega), (by first | trivial | exact rfl | exact ⟨rfl, rfl⟩ | omega), by simp, (by first | trivial | exact rfl | exact ⟨rfl, rfl⟩ | omega), by simp, by simp, (by first | trivial | exact rfl | exact ⟨rfl, rfl⟩ | omega), by simp, by simp⟩, ⟨by ((try dsimp only); omega)⟩⟩⟩⟩
          intro j hj
          rw [hSv j hj, rootS_succ, if_neg (by simp [h3'])]
    (simp only [decide_eq_true_eq, decide_eq_false_iff_not, Bool.not_eq_true', Bool.not_eq_false'] at h)
    have hkl : k = l.length := by omega
    subst hkl
    refine ⟨fun i γU V γS R g' y a' b' c' gr' rl ra rb rc g n cc gr m => ∃ k : Nat, i = k ∧ k ≤ l.length ∧ γS = 0 ∧ R = S,
      fun i _ _ _ _ _ _ _ _ _ _ _ _ _ _ _ _ _ _ _ => ((l.length : Int) - i).toNat, ⟨(by simp )⟩, ⟨0, rfl, by omega, by simp, (by first | trivial | exact rfl | exact ⟨rfl, rfl⟩ | omega)⟩, ?_⟩
    rintro _ _ _ _ S _ _ _ _ _ _ _ _ _ _ _ _ _ _ _ ⟨k, rfl, hk1, rfl, rfl⟩
    refine ⟨fun h => ?_, fun _ => (by first | trivial | exact rfl | exact ⟨rfl, rfl⟩ | omega)⟩
    (simp only [decide_eq_true_eq, decide_eq_false_iff_not, Bool.not_eq_true', Bool.not_eq_false'] at h)
    have hk' : k < l.length := by omega
    have h1 := hSv k hk'
    rw [tr_once hT hk'] at h1
    simp only [Int.toNat_natCast, Nat.zero_add]
    exact ⟨⟨by omega⟩, ⟨by rfl⟩, ⟨by omega⟩, fun h3 => by (simp only [decide_eq_true_eq, decide_eq_false_iff_not, Bool.not_eq_true', Bool.not_eq_false'] at h3); exact absurd h1 h3, fun _ => ⟨⟨by omega⟩, ⟨(by simp )⟩, ⟨k + 1, by omega, by omega, by simp, (by first | trivial | exact rfl | exact ⟨rfl, rfl⟩ | omega)⟩, ⟨by ((try dsimp only); omega)⟩⟩⟩
  obtain ⟨v, h', e, rfl, rfl⟩ := key
  exact e
end Go.Am.T
