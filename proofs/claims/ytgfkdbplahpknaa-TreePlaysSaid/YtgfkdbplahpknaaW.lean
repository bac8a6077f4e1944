/-
  A part of the proof of a law: see the text that states it.
-/
import Derived.Test.YtgfkdbplahpknaaT
import Derived.Test.YtgfkdbplahpknaaVcM
import Derived.Test.YtgfkdbplahpknaaVcA
set_option linter.all false
namespace Go.Am.T
open Go
set_option maxRecDepth 100000
theorem toRL_at {l : List Th} {i : Int} (hi : inR l i = true) : (toRL l).getD (0 + Int.toNat i) rn0 = toR (l.getD i.toNat th0) := by
 rw [Nat.zero_add, toRL_get]
theorem toR_kids {l : List Th} {i : Int} (hi : inR l i = true) : (toR (l.getD i.toNat th0)).2.2.2.2.1 = kidsN l i := by
 unfold kidsN; rw [atN_in hi]; rfl
theorem toR_leaf {l : List Th} {i : Int} (hi : inR l i = true) : (toR (l.getD i.toNat th0)).1 = leafN l i := by
 unfold leafN; rw [atN_in hi]; rfl
theorem toR_rule {l : List Th} {i : Int} (hi : inR l i = true) : (toR (l.getD i.toNat th0)).2.1 = ruleN l i := by
 unfold ruleN; rw [if_pos hi, atN_in hi]; rfl
theorem toR_sym {l : List Th} {i : Int} (hi : inR l i = true) : (toR (l.getD i.toNat th0)).2.2.1 = symN l i := by
 unfold symN; rw [if_pos hi, atN_in hi]; rfl
theorem toR_tok {l : List Th} {i : Int} (hi : inR l i = true) : (toR (l.getD i.toNat th0)).2.2.2.1 = tokN l i := by
 unfold tokN; rw [atN_in hi]; rfl
theorem rbelow_tv (g : Nat) (l : List Th) (a b c : Int) (h : Tr l) (hl : l.length ≤ 1000) : ∀ n : Nat, ∀ i : Int, i.toNat ≤ n → E 37 [.op (0, 0) [], iv i] (hR g (toRL l) a b c) (lvO (below l i)) (hR g (toRL l) a b c) := by
 intro n
 have hlr : (toRL l).length = l.length := by simp
 induction n using Nat.strongRecOn with
 | _ n ih =>
  intro i hn
  refine ev_of (vc37 i g (toRL l) a b c _ ?_)
  refine ⟨fun h1 => ?_, fun h1 => ⟨fun h2 => ?_, fun h2 => ?_⟩⟩
  ·(simp only [decide_eq_true_eq, decide_eq_false_iff_not, Bool.not_eq_true', Bool.not_eq_false'] at h1)
   rw [below_out (by cases e : inR l i with | false => rfl | true => have := inR_iff.1 e; omega)]; exact ⟨rfl, rfl⟩
  ·(simp only [decide_eq_true_eq, decide_eq_false_iff_not, Bool.not_eq_true', Bool.not_eq_false'] at h2)
   rw [below_out (by cases e : inR l i with | false => rfl | true => have := inR_iff.1 e; omega)]; exact ⟨rfl, rfl⟩
  ·(simp only [decide_eq_true_eq, decide_eq_false_iff_not, Bool.not_eq_true', Bool.not_eq_false'] at h1)
   (simp only [decide_eq_true_eq, decide_eq_false_iff_not, Bool.not_eq_true', Bool.not_eq_false'] at h2)
   have hi : inR l i = true := by rw [inR_iff]; omega
   obtain ⟨q1, q2⟩ := tr_below h i hi
   have hs := tr_size h i
   rw [q1, List.length_append] at hs
   have hkl := h.kidsN i
   rw [q1]
   have hi' := inR_iff.1 hi
   refine ⟨fun acc j γ m a' b' c' γ' y => ∃ k : Nat, j = k ∧ k ≤ (kidsN l i).length ∧ acc = ((kidsN l i).take k).flatMap (below l) ∧ γ = (g : Int) ∧ m = ((toRL l).length : Int) ∧ a' = a ∧ b' = b ∧ c' = c ∧ γ' = (g : Int) ∧ y = toRL l, fun _ j _ _ _ _ _ _ _ => (((kidsN l i).length : Int) - j).toNat, ⟨(by first | trivial | exact rfl | exact ⟨rfl, rfl⟩ | omega)⟩, ⟨0, rfl, by omega, by simp, (by first | trivial | exact rfl | exact ⟨rfl, rfl⟩ | omega), (by first | trivial | exact rfl | exact ⟨rfl, rfl⟩ | omega), (by first | trivial | exact rfl | exact ⟨rfl, rfl⟩ | omega), (by first | trivial | exact rfl | exact ⟨rfl, rfl⟩ | omega), (by first | trivial | exact rfl | exact ⟨rfl, rfl⟩ | omega), (by first | trivial | exact rfl | exact ⟨rfl, rfl⟩ | omega), (by first | trivial | exact rfl | exact ⟨rfl, rfl⟩ | omega)⟩, ?_⟩
   rintro _ _ _ _ a b c _ _ ⟨k, rfl, hk, rfl, rfl, rfl, e1, e2, e3, rfl, rfl⟩
   subst e1 e2 e3
   have hft := flat_take (below l) (kidsN l i) k
   rw [toRL_at hi, toR_kids hi]
   have hx : 0 + Int.toNat i < (toRL l).length := by omega
   have hy : 0 ≤ i ∧ i < (Int.toNat ((toRL l).length : Int) : Int) := ⟨by omega, by omega⟩
   refine ⟨⟨hy⟩, ⟨rfl⟩, ⟨hx⟩, ⟨rfl⟩, ⟨hx⟩, fun h2 => ?_, fun h2 => ?_⟩
   ·have h2' : (k : Int) < ((kidsN l i).length : Int) := of_decide_eq_true h2
    have hk' : k < (kidsN l i).length := by omega
    have hlt := q2 _ (getD_mem' (0 : Int) hk')
    have hft2 := flat_take (below l) (kidsN l i) (k + 1)
    rw [take_snoc (0 : Int) hk', List.flatMap_append, List.length_append] at hft2
    simp only [List.flatMap_cons, List.flatMap_nil, List.append_nil] at hft2
    refine ⟨⟨hy⟩, ⟨rfl⟩, ⟨hx⟩, ⟨rfl⟩, ⟨hx⟩, ⟨⟨by omega, h2'⟩⟩, ?_⟩
    ((repeat apply Exists.intro); refine And.intro (Need.mk (ih ((kidsN l i).getD k 0).toNat (by omega) ((kidsN l i).getD k 0) (Nat.le_refl _))) ?_)
    refine ⟨⟨by unfold bigN; omega⟩, ⟨by omega⟩, ⟨(by first | trivial | exact rfl | exact ⟨rfl, rfl⟩ | omega)⟩, ⟨k + 1, by omega, by omega, ?_, (by first | trivial | exact rfl | exact ⟨rfl, rfl⟩ | omega), (by first | trivial | exact rfl | exact ⟨rfl, rfl⟩ | omega), (by first | trivial | exact rfl | exact ⟨rfl, rfl⟩ | omega), (by first | trivial | exact rfl | exact ⟨rfl, rfl⟩ | omega), (by first | trivial | exact rfl | exact ⟨rfl, rfl⟩ | omega), (by first | trivial | exact rfl | exact ⟨rfl, rfl⟩ | omega), (by first | trivial | exact rfl | exact ⟨rfl, rfl⟩ | omega)⟩, ⟨by ((try dsimp only); omega)⟩⟩
    rw [take_snoc (0 : Int) hk', List.flatMap_append]; simp
   ·have h2' : ¬ (k : Int) < ((kidsN l i).length : Int) := of_decide_eq_false h2
    have : k = (kidsN l i).length := by omega
    subst this
    rw [List.take_length] at hft ⊢
    refine ⟨⟨by simp only [List.length_cons, List.length_nil, bigN] at hs ⊢; omega⟩, (by first | trivial | exact rfl | exact ⟨rfl, rfl⟩ | omega)⟩
theorem rbelow_ev (g : Nat) (l : List Th) (a b c : Int) (h : Tr l) (hl : l.length ≤ 1000) (i : Int) : E 37 [.op (0, 0) [], iv i] (hR g (toRL l) a b c) (lvO (below l i)) (hR g (toRL l) a b c) := rbelow_tv g l a b c h hl i.toNat i (Nat.le_refl _)
theorem ryield_ev (g : Nat) (l : List Th) (a b c : Int) (h : Tr l) (hl : l.length ≤ 1000) (i : Int) : E 38 [.op (0, 0) [], iv i] (hR g (toRL l) a b c) (.tv [[]] (.slice tTok) (yieldN l i)) (hR g (toRL l) a b c) := by
 have hlr : (toRL l).length = l.length := by simp
 refine ev_of (vc38 i g (toRL l) a b c _ ?_)
 ((repeat apply Exists.intro); refine And.intro (Need.mk (rbelow_ev g l a b c h hl i)) ?_)
 have hs := tr_size h i
 refine ⟨fun acc j γ m a' b' c' γ' y => ∃ k : Nat, j = k ∧ k ≤ (below l i).length ∧ acc = (((below l i).take k).filter (leafN l)).map (tokN l) ∧ γ = (g : Int) ∧ m = ((toRL l).length : Int) ∧ a' = a ∧ b' = b ∧ c' = c ∧ γ' = (g : Int) ∧ y = toRL l, fun _ j _ _ _ _ _ _ _ => (((below l i).length : Int) - j).toNat, ⟨(by first | trivial | exact rfl | exact ⟨rfl, rfl⟩ | omega)⟩, ⟨0, rfl, by omega, by simp, (by first | trivial | exact rfl | exact ⟨rfl, rfl⟩ | omega), (by first | trivial | exact rfl | exact ⟨rfl, rfl⟩ | omega), (by first | trivial | exact rfl | exact ⟨rfl, rfl⟩ | omega), (by first | trivial | exact rfl | exact ⟨rfl, rfl⟩ | omega), (by first | trivial | exact rfl | exact ⟨rfl, rfl⟩ | omega), (by first | trivial | exact rfl | exact ⟨rfl, rfl⟩ | omega), (by first | trivial | exact rfl | exact ⟨rfl, rfl⟩ | omega)⟩, ?_⟩
 rintro _ _ _ _ a b c _ _ ⟨k, rfl, hk, rfl, rfl, rfl, e1, e2, e3, rfl, rfl⟩
 subst e1 e2 e3
 have hfl : ((((below l i).take k).filter (leafN l)).map (tokN l)).length ≤ k := by
  rw [List.length_map]
  have := List.length_filter_le (leafN l) ((below l i).take k)
  rw [List.length_take] at this
  omega
 refine ⟨fun h2 => ?_, fun h2 => ?_⟩
 ·(simp only [decide_eq_true_eq, decide_eq_false_iff_not, Bool.not_eq_true', Bool.not_eq_false'] at h2)
  have hk' : k < (below l i).length := by omega
  have ets := take_snoc (0 : Int) hk'
  have hlt := tr_lt h i.toNat i (by omega) _ (getD_mem' (0 : Int) hk')
  have hj : inR l ((below l i).getD k 0) = true := by rw [inR_iff]; omega
  have ht : Int.toNat (k : Int) = k := by omega
  rw [ht, toRL_at hj, toR_leaf hj, toR_tok hj]
  have hx : 0 + Int.toNat ((below l i).getD k 0) < (toRL l).length := by omega
  have hy : 0 ≤ (below l i).getD k 0 ∧ (below l i).getD k 0 < (Int.toNat ((toRL l).length : Int) : Int) := ⟨by omega, by omega⟩
  refine ⟨⟨⟨by omega, by omega⟩⟩, ⟨hy⟩, ⟨rfl⟩, ⟨hx⟩, ⟨rfl⟩, ⟨hx⟩, fun h3 => ?_, fun h3 => ⟨⟨by omega⟩, ⟨(by first | trivial | exact rfl | exact ⟨rfl, rfl⟩ | omega)⟩, ⟨k + 1, by omega, by omega, ?_, (by first | trivial | exact rfl | exact ⟨rfl, rfl⟩ | omega), (by first | trivial | exact rfl | exact ⟨rfl, rfl⟩ | omega), (by first | trivial | exact rfl | exact ⟨rfl, rfl⟩ | omega), (by first | trivial | exact rfl | exact ⟨rfl, rfl⟩ | omega), (by first | trivial | exact rfl | exact ⟨rfl, rfl⟩ | omega), (by first | trivial | exact rfl | exact ⟨rfl, rfl⟩ | omega), (by first | trivial | exact rfl | exact ⟨rfl, rfl⟩ | omega)⟩, ⟨by ((try dsimp only); omega)⟩⟩⟩
  ·refine ⟨⟨⟨by omega, by omega⟩⟩, ⟨hy⟩, ⟨rfl⟩, ⟨hx⟩, ⟨rfl⟩, ⟨hx⟩, ⟨by simp only [List.length_cons, List.length_nil, bigN]; omega⟩, ⟨by omega⟩, ⟨(by first | trivial | exact rfl | exact ⟨rfl, rfl⟩ | omega)⟩, ⟨k + 1, by omega, by omega, ?_, (by first | trivial | exact rfl | exact ⟨rfl, rfl⟩ | omega), (by first | trivial | exact rfl | exact ⟨rfl, rfl⟩ | omega), (by first | trivial | exact rfl | exact ⟨rfl, rfl⟩ | omega), (by first | trivial | exact rfl | exact ⟨rfl, rfl⟩ | omega), (by first | trivial | exact rfl | exact ⟨rfl, rfl⟩ | omega), (by first | trivial | exact rfl | exact ⟨rfl, rfl⟩ | omega), (by first | trivial | exact rfl | exact ⟨rfl, rfl⟩ | omega)⟩, ⟨by ((try dsimp only); omega)⟩⟩
   rw [ets, List.filter_append, List.map_append]
   simp only [List.filter_cons, h3, if_true, List.filter_nil, List.map_cons, List.map_nil]
  ·rw [ets, List.filter_append, List.map_append]
   simp only [List.filter_cons, h3, Bool.false_eq_true, if_false, List.filter_nil, List.map_nil, List.append_nil]
 ·(simp only [decide_eq_true_eq, decide_eq_false_iff_not, Bool.not_eq_true', Bool.not_eq_false'] at h2)
  have : k = (below l i).length := by omega
  subst this
  rw [List.take_length]
  exact ⟨rfl, (by first | trivial | exact rfl | exact ⟨rfl, rfl⟩ | omega)⟩
end Go.Am.T
namespace Go.Am.T
open Go
set_option maxRecDepth 100000
theorem right_false {p : Pl} {l : List Th} {i x : Int} (hx : x ∈ below l i) (hf : fitsN p l x = false) : rightN p l i = false := by
 unfold rightN
 have : (below l i).all (fitsN p l) = false := by rw [List.all_eq_false]; exact ⟨x, hx, by rw [hf]; decide⟩
 rw [this, Bool.and_false]
theorem fits_node {p : Pl} {l : List Th} {x : Int} (hl : leafN l x = false) (h1 : ¬ ruleN l x < 1) (h2 : ¬ (p.2.2.1.length : Int) ≤ ruleN l x) : fitsN p l x = (decide ((p.2.2.1.getD (ruleN l x).toNat pr0).1 = symN l x) && decide ((kidsN l x).map (symN l) = (p.2.2.1.getD (ruleN l x).toNat pr0).2.1)) := by
 unfold fitsN
 rw [if_neg (by simp [hl]), if_neg (by omega)]
theorem rright_ev (p : Pl) (g : Nat) (l : List Th) (a b c : Int) (h : Tr l) (hl : l.length ≤ 1000) (i : Int) : E 39 [.op (0, 0) [], .tv [] tPl p, iv i] (hR g (toRL l) a b c) (bv (rightN p l i)) (hR g (toRL l) a b c) := by
 have hlr : (toRL l).length = l.length := by simp
 have hfn := fun x h1 h2 h3 => fits_node (p := p) (l := l) (x := x) h1 h2 h3
 have hfl : ∀ x, leafN l x = true → fitsN p l x = (decide (0 < symN l x) && decide (symN l x < p.1.length)) := fun x hx => by unfold fitsN; rw [if_pos hx]
 have hfr : ∀ x, leafN l x = false → ruleN l x < 1 ∨ (p.2.2.1.length : Int) ≤ ruleN l x → fitsN p l x = false := fun x hx hr => by unfold fitsN; rw [if_neg (by simp [hx]), if_pos hr]
 obtain ⟨p0, p1, p2, p3, p4, p5, _⟩ := p
 refine ev_of (vc39 p0 p1 p2 p3 p4 p5 i g (toRL l) a b c _ ?_)
 ((repeat apply Exists.intro); refine And.intro (Need.mk (rbelow_ev g l a b c h hl i)) ?_)
 have hs := tr_size h i
 obtain ⟨P, hP⟩ : ∃ P : Pl, P = (p0, p1, p2, p3, p4, p5, ()) := ⟨_, rfl⟩
 have hfl : ∀ x, leafN l x = true → fitsN P l x = (decide (0 < symN l x) && decide (symN l x < (p0.length : Int))) := fun x hx => by rw [hP]; exact hfl x hx
 have hfn : ∀ x, leafN l x = false → ¬ ruleN l x < 1 → ¬ (p2.length : Int) ≤ ruleN l x → fitsN P l x = (decide ((p2.getD (ruleN l x).toNat pr0).1 = symN l x) && decide ((kidsN l x).map (symN l) = (p2.getD (ruleN l x).toNat pr0).2.1)) := fun x h1 h2 h3 => by rw [hP]; exact hfn x h1 h2 h3
 have hfr : ∀ x, leafN l x = false → ruleN l x < 1 ∨ (p2.length : Int) ≤ ruleN l x → fitsN P l x = false := fun x h1 h2 => by rw [hP]; exact hfr x h1 h2
 rw [← hP]
 refine ⟨fun j γ m a' b' c' γ' y => ∃ k : Nat, j = k ∧ k ≤ (below l i).length ∧ ((below l i).take k).all (fitsN P l) = true ∧ γ = (g : Int) ∧ m = ((toRL l).length : Int) ∧ a' = a ∧ b' = b ∧ c' = c ∧ γ' = (g : Int) ∧ y = toRL l, fun j _ _ _ _ _ _ _ => (((below l i).length : Int) - j).toNat, ⟨(by first | trivial | exact rfl | exact ⟨rfl, rfl⟩ | omega)⟩, ⟨0, rfl, by omega, by simp, (by first | trivial | exact rfl | exact ⟨rfl, rfl⟩ | omega), (by first | trivial | exact rfl | exact ⟨rfl, rfl⟩ | omega), (by first | trivial | exact rfl | exact ⟨rfl, rfl⟩ | omega), (by first | trivial | exact rfl | exact ⟨rfl, rfl⟩ | omega), (by first | trivial | exact rfl | exact ⟨rfl, rfl⟩ | omega), (by first | trivial | exact rfl | exact ⟨rfl, rfl⟩ | omega), (by first | trivial | exact rfl | exact ⟨rfl, rfl⟩ | omega)⟩, ?_⟩
 rintro _ _ _ a b c _ _ ⟨k, rfl, hk, hall, rfl, rfl, e1, e2, e3, rfl, rfl⟩
 subst e1 e2 e3
 refine ⟨fun h2 => ?_, fun h2 => ?_⟩
 ·(simp only [decide_eq_true_eq, decide_eq_false_iff_not, Bool.not_eq_true', Bool.not_eq_false'] at h2)
  have hk' : k < (below l i).length := by omega
  have hm := getD_mem' (0 : Int) hk'
  have ets := take_snoc (0 : Int) hk'
  have hlt := tr_lt h i.toNat i (by omega) _ hm
  have hj : inR l ((below l i).getD k 0) = true := by rw [inR_iff]; omega
  have hrf := fun hf => right_false (p := P) hm hf
  have nxt : fitsN P l ((below l i).getD k 0) = true → ((below l i).take (k + 1)).all (fitsN P l) = true := fun hf => by
   rw [ets, List.all_append, hall]; simpa using hf
  have ht : Int.toNat (k : Int) = k := by omega
  rw [ht, toRL_at hj, toR_leaf hj, toR_kids hj, toR_sym hj, toR_rule hj]
  have hkl := (tr_below h _ hj).2
  have hkn := h.kidsN ((below l i).getD k 0)
  generalize (below l i).getD k 0 = x at *
  have hx : 0 + Int.toNat x < (toRL l).length := by omega
  have hy : 0 ≤ x ∧ x < (Int.toNat ((toRL l).length : Int) : Int) := ⟨by omega, by omega⟩
  refine ⟨⟨⟨by omega, by omega⟩⟩, ⟨hy⟩, ⟨rfl⟩, ⟨hx⟩, fun h3 => ⟨fun h4 => ?_, fun h4 => ⟨fun h5 => ?_, fun h5 => ?_⟩⟩, fun h3 => ⟨fun h4 => ?_, fun h4 => ⟨fun h5 => ?_, fun h5 => ?_⟩⟩⟩
  ·(simp only [decide_eq_true_eq, decide_eq_false_iff_not, Bool.not_eq_true', Bool.not_eq_false'] at h4)
   exact ⟨by rw [hrf (by rw [hfl x h3, decide_eq_false (by omega), Bool.false_and])], (by first | trivial | exact rfl | exact ⟨rfl, rfl⟩ | omega)⟩
  ·(simp only [decide_eq_true_eq, decide_eq_false_iff_not, Bool.not_eq_true', Bool.not_eq_false'] at h5)
   exact ⟨by rw [hrf (by rw [hfl x h3, decide_eq_false (p := symN l x < _) (by omega), Bool.and_false])], (by first | trivial | exact rfl | exact ⟨rfl, rfl⟩ | omega)⟩
  ·(simp only [decide_eq_true_eq, decide_eq_false_iff_not, Bool.not_eq_true', Bool.not_eq_false'] at h4)
   (simp only [decide_eq_true_eq, decide_eq_false_iff_not, Bool.not_eq_true', Bool.not_eq_false'] at h5)
   exact ⟨⟨by omega⟩, ⟨(by first | trivial | exact rfl | exact ⟨rfl, rfl⟩ | omega)⟩, ⟨k + 1, by omega, by omega, nxt (by rw [hfl x h3, decide_eq_true (p := 0 < symN l x) (by omega), decide_eq_true (p := symN l x < _) (by omega)]; rfl), (by first | trivial | exact rfl | exact ⟨rfl, rfl⟩ | omega), (by first | trivial | exact rfl | exact ⟨rfl, rfl⟩ | omega), (by first | trivial | exact rfl | exact ⟨rfl, rfl⟩ | omega), (by first | trivial | exact rfl | exact ⟨rfl, rfl⟩ | omega), (by first | trivial | exact rfl | exact ⟨rfl, rfl⟩ | omega), (by first | trivial | exact rfl | exact ⟨rfl, rfl⟩ | omega), (by first | trivial | exact rfl | exact ⟨rfl, rfl⟩ | omega)⟩, ⟨by ((try dsimp only); omega)⟩⟩
  ·(simp only [decide_eq_true_eq, decide_eq_false_iff_not, Bool.not_eq_true', Bool.not_eq_false'] at h4)
   exact ⟨by rw [hrf (hfr x h3 (.inl (by omega)))], (by first | trivial | exact rfl | exact ⟨rfl, rfl⟩ | omega)⟩
  ·(simp only [decide_eq_true_eq, decide_eq_false_iff_not, Bool.not_eq_true', Bool.not_eq_false'] at h5)
   exact ⟨by rw [hrf (hfr x h3 (.inr (by omega)))], (by first | trivial | exact rfl | exact ⟨rfl, rfl⟩ | omega)⟩
  ·(simp only [decide_eq_true_eq, decide_eq_false_iff_not, Bool.not_eq_true', Bool.not_eq_false'] at h4)
   (simp only [decide_eq_true_eq, decide_eq_false_iff_not, Bool.not_eq_true', Bool.not_eq_false'] at h5)
   have hfx := hfn x h3 h4 h5
   refine ⟨⟨⟨by omega, by omega⟩⟩, fun h6 => ?_, fun h6 => ?_⟩
   ·have h6' : ¬ (p2.getD (ruleN l x).toNat pr0).1 = symN l x := of_decide_eq_true h6
    exact ⟨by rw [hrf (by rw [hfx, decide_eq_false h6', Bool.false_and])], (by first | trivial | exact rfl | exact ⟨rfl, rfl⟩ | omega)⟩
   ·have h6' : (p2.getD (ruleN l x).toNat pr0).1 = symN l x := Decidable.not_not.1 (of_decide_eq_false h6)
    rw [decide_eq_true h6', Bool.true_and] at hfx
    refine ⟨fun syms j lf rl sy t1 t2 t3 ks bl γ m a' b' c' γ' y => ∃ q : Nat, j = q ∧ q ≤ (kidsN l x).length ∧ syms = ((kidsN l x).take q).map (symN l) ∧ rl = ruleN l x ∧ ks = kidsN l x ∧ γ = (g : Int) ∧ m = ((toRL l).length : Int) ∧ a' = a ∧ b' = b ∧ c' = c ∧ γ' = (g : Int) ∧ y = toRL l, fun _ j _ _ _ _ _ _ _ _ _ _ _ _ _ _ _ => (((kidsN l x).length : Int) - j).toNat, ⟨(by first | trivial | exact rfl | exact ⟨rfl, rfl⟩ | omega)⟩, ⟨0, rfl, by omega, by simp, (by first | trivial | exact rfl | exact ⟨rfl, rfl⟩ | omega), (by first | trivial | exact rfl | exact ⟨rfl, rfl⟩ | omega), by simp, by simp, (by first | trivial | exact rfl | exact ⟨rfl, rfl⟩ | omega), (by first | trivial | exact rfl | exact ⟨rfl, rfl⟩ | omega), (by first | trivial | exact rfl | exact ⟨rfl, rfl⟩ | omega), by simp, (by first | trivial | exact rfl | exact ⟨rfl, rfl⟩ | omega)⟩, ?_⟩
    rintro _ _ _ _ _ _ _ _ _ _ _ _ a b c _ _ ⟨q, rfl, hq, rfl, rfl, rfl, rfl, rfl, e1, e2, e3, rfl, rfl⟩
    subst e1 e2 e3
    have hml : (((kidsN l x).take q).map (symN l)).length ≤ 1000 := by simp only [List.length_map, List.length_take]; omega
    refine ⟨fun h7 => ?_, fun h7 => ?_⟩
    ·(simp only [decide_eq_true_eq, decide_eq_false_iff_not, Bool.not_eq_true', Bool.not_eq_false'] at h7)
     have hq' : q < (kidsN l x).length := by omega
     have hkx := hkl _ (getD_mem' (0 : Int) hq')
     have hjk : inR l ((kidsN l x).getD q 0) = true := by rw [inR_iff]; omega
     have htq : Int.toNat (q : Int) = q := by omega
     rw [htq, toRL_at hjk, toR_sym hjk]
     have hx2 : 0 + Int.toNat ((kidsN l x).getD q 0) < (toRL l).length := by omega
     refine ⟨⟨⟨by omega, by omega⟩⟩, ⟨⟨by omega, by omega⟩⟩, ⟨rfl⟩, ⟨hx2⟩, ⟨rfl⟩, ⟨hx2⟩, ⟨by unfold bigN; simp only [List.length_cons, List.length_nil]; omega⟩, ⟨by omega⟩, ⟨(by first | trivial | exact rfl | exact ⟨rfl, rfl⟩ | omega)⟩, ⟨q + 1, by omega, by omega, ?_, (by first | trivial | exact rfl | exact ⟨rfl, rfl⟩ | omega), (by first | trivial | exact rfl | exact ⟨rfl, rfl⟩ | omega), by simp, by simp, (by first | trivial | exact rfl | exact ⟨rfl, rfl⟩ | omega), (by first | trivial | exact rfl | exact ⟨rfl, rfl⟩ | omega), (by first | trivial | exact rfl | exact ⟨rfl, rfl⟩ | omega), by simp, (by first | trivial | exact rfl | exact ⟨rfl, rfl⟩ | omega)⟩, ⟨by ((try dsimp only); omega)⟩⟩
     rw [take_snoc (0 : Int) hq', List.map_append]; rfl
    ·(simp only [decide_eq_true_eq, decide_eq_false_iff_not, Bool.not_eq_true', Bool.not_eq_false'] at h7)
     have : q = (kidsN l x).length := by omega
     subst this
     rw [List.take_length] at hml ⊢
     refine And.intro (Need.mk ⟨by omega, by omega⟩) ?_
     ((repeat apply Exists.intro); refine And.intro (Need.mk (ints_ev ((kidsN l x).map (symN l)) (p2.getD (ruleN l x).toNat pr0).2.1 (by omega))) ?_)
     refine ⟨fun h8 => ?_, fun h8 => ?_⟩
     ·have h8' : decide ((kidsN l x).map (symN l) = (p2.getD (ruleN l x).toNat pr0).2.1) = false := by simpa using h8
      exact ⟨by rw [hrf (by rw [hfx]; exact h8')], (by first | trivial | exact rfl | exact ⟨rfl, rfl⟩ | omega)⟩
     ·have h8' : decide ((kidsN l x).map (symN l) = (p2.getD (ruleN l x).toNat pr0).2.1) = true := by simpa using h8
      exact ⟨⟨by omega⟩, ⟨(by first | trivial | exact rfl | exact ⟨rfl, rfl⟩ | omega)⟩, ⟨k + 1, by omega, by omega, nxt (by rw [hfx]; exact h8'), by simp, by simp, (by first | trivial | exact rfl | exact ⟨rfl, rfl⟩ | omega), (by first | trivial | exact rfl | exact ⟨rfl, rfl⟩ | omega), (by first | trivial | exact rfl | exact ⟨rfl, rfl⟩ | omega), by simp, (by first | trivial | exact rfl | exact ⟨rfl, rfl⟩ | omega)⟩, ⟨by ((try dsimp only); omega)⟩⟩
 ·(simp only [decide_eq_true_eq, decide_eq_false_iff_not, Bool.not_eq_true', Bool.not_eq_false'] at h2)
  have : k = (below l i).length := by omega
  subst this
  rw [List.take_length] at hall
  refine ⟨?_, (by first | trivial | exact rfl | exact ⟨rfl, rfl⟩ | omega)⟩
  unfold rightN
  rw [hall, Bool.and_true]
  congr 1
  rw [Bool.eq_iff_iff, decide_eq_true_eq, decide_eq_true_eq]
  constructor
  ·intro hh e; rw [e] at hh; simp at hh
  ·intro hh
   have := List.length_pos_iff.2 hh
   omega
end Go.Am.T
