/-
  A part of the proof of a law: see the text that states it.
-/
import Derived.Test.YtgfkdbplahpknaaW
import Derived.Test.YtgfkdbplahpknaaVd4
import Derived.Test.YtgfkdbplahpknaaTreeCells
set_option linter.all false
namespace Go.Am.T
open Go
set_option maxRecDepth 100000
def accB : List Int := [36, 97, 99, 99, 101, 112, 116]
def nameN (p : Pl) (i : Int) : List Int :=
 if 0 ≤ i ∧ i < p.1.length then p.1.getD i.toNat []
 else if (p.1.length : Int) ≤ i ∧ i < p.1.length + p.2.1.length then p.2.1.getD (i - p.1.length).toNat []
 else if i = p.1.length + p.2.1.length then accB else []
theorem rname_ev (p : Pl) (hp : GoodP p) (i : Int) : E 63 [.tv [] tPl p, iv i] [] (.tv [] .str (nameN p i)) [] := by
 have t1 := hp.terms
 have t2 := hp.vars
 clear hp
 obtain ⟨p0, p1, p2, p3, p4, p5, _⟩ := p
 have e1 : nameN (p0, p1, p2, p3, p4, p5, ()) i = if 0 ≤ i ∧ i < p0.length then p0.getD i.toNat [] else if (p0.length : Int) ≤ i ∧ i < p0.length + p1.length then p1.getD (i - p0.length).toNat [] else if i = p0.length + p1.length then accB else [] := rfl
 dsimp only at t1 t2
 refine ev_of (vc63 p0 p1 p2 p3 p4 p5 i _ ?_)
 rw [e1]
 clear e1
 (repeat' (first | (intro _) | (refine And.intro ?_ ?_) | (refine Need.mk ?_))) <;> (try (simp only [decide_eq_true_eq, decide_eq_false_iff_not, Bool.not_eq_true', Bool.not_eq_false', Bool.and_eq_true, Bool.or_eq_true, Bool.and_true, Bool.true_and] at *)) <;> first
  | omega
  | rfl
  | (rw [if_pos (by omega)]; done)
  | (rw [if_pos (by omega)]; rfl)
  | (rw [if_neg (by omega), if_pos (by omega)]; done)
  | (rw [if_neg (by omega), if_pos (by omega)]; rfl)
  | (rw [if_neg (by omega), if_neg (by omega), if_pos (by omega)]; rfl)
  | (rw [if_neg (by omega), if_neg (by omega), if_neg (by omega)]; rfl)
theorem acc_ev (p : Pl) (hp : GoodP p) : E 77 [.tv [] tPl p] [] (iv ((p.1.length : Int) + p.2.1.length)) [] := by
 have t1 := hp.terms
 have t2 := hp.vars
 obtain ⟨p0, p1, p2, p3, p4, p5, _⟩ := p
 dsimp only at t1 t2
 exact ev_of (vc77 p0 p1 p2 p3 p4 p5 _ ⟨⟨by omega⟩, ⟨rfl, rfl⟩⟩)
theorem nm_ev (p : Pl) (hp : GoodP p) (i : Int) : E 61 [.tv [] tPl p, iv i] [] (.tv [] .str (nameN p i)) [] := by
 have t1 := hp.terms
 have t2 := hp.vars
 have ca := acc_ev p hp
 have ct := term_ev p i
 clear hp
 obtain ⟨p0, p1, p2, p3, p4, p5, _⟩ := p
 have e1 : nameN (p0, p1, p2, p3, p4, p5, ()) i = if 0 ≤ i ∧ i < p0.length then p0.getD i.toNat [] else if (p0.length : Int) ≤ i ∧ i < p0.length + p1.length then p1.getD (i - p0.length).toNat [] else if i = p0.length + p1.length then accB else [] := rfl
 dsimp only at t1 t2
 refine ev_of (vc61 p0 p1 p2 p3 p4 p5 i _ ?_)
 rw [e1]
 refine ⟨fun h1 => ?_, fun h1 => ?_⟩
 ·(simp only [decide_eq_true_eq, decide_eq_false_iff_not, Bool.not_eq_true', Bool.not_eq_false'] at h1)
  rw [if_neg (by omega), if_neg (by omega), if_neg (by omega)]; exact ⟨rfl, rfl⟩
 ·((repeat apply Exists.intro); refine And.intro (Need.mk (ca)) ?_)
  (simp only [decide_eq_true_eq, decide_eq_false_iff_not, Bool.not_eq_true', Bool.not_eq_false'] at h1)
  refine ⟨fun h2 => ?_, fun h2 => ?_⟩
  ·(simp only [decide_eq_true_eq, decide_eq_false_iff_not, Bool.not_eq_true', Bool.not_eq_false'] at h2)
   rw [if_neg (by omega), if_neg (by omega), if_neg (by omega)]; exact ⟨rfl, rfl⟩
  ·(simp only [decide_eq_true_eq, decide_eq_false_iff_not, Bool.not_eq_true', Bool.not_eq_false'] at h2)
   ((repeat apply Exists.intro); refine And.intro (Need.mk (ca)) ?_)
   refine ⟨fun h3 => ?_, fun h3 => ?_⟩
   ·(simp only [decide_eq_true_eq, decide_eq_false_iff_not, Bool.not_eq_true', Bool.not_eq_false'] at h3)
    rw [if_neg (by omega), if_neg (by omega), if_pos (by omega)]; exact ⟨rfl, rfl⟩
   ·(simp only [decide_eq_true_eq, decide_eq_false_iff_not, Bool.not_eq_true', Bool.not_eq_false'] at h3)
    ((repeat apply Exists.intro); refine And.intro (Need.mk (ct)) ?_)
    refine ⟨fun h4 => ?_, fun h4 => ?_⟩
    ·have h4' : 0 ≤ i ∧ i < p0.length := by simpa using h4
     rw [if_pos h4']
     exact ⟨⟨h4'⟩, rfl, rfl⟩
    ·have h4' : ¬ (0 ≤ i ∧ i < p0.length) := by
      intro hh
      have : (decide (0 ≤ i) && decide (i < (p0.length : Int))) = true := by simp [hh.1, hh.2]
      have h5 : (decide (0 ≤ i) && decide (i < (p0.length : Int))) = false := h4
      rw [this] at h5; cases h5
     rw [if_neg h4', if_pos (by omega)]
     exact ⟨⟨by omega⟩, ⟨by omega⟩, rfl, rfl⟩
theorem name_len {p : Pl} (hp : GoodP p) (i : Int) : (nameN p i).length ≤ 7 := by
 unfold nameN
 split
 ·rename_i h1
  have := hp.tlen _ (getD_mem' ([] : List Int) (l := p.1) (n := i.toNat) (by omega))
  omega
 ·split
  ·rename_i h1
   have := hp.vlen _ (getD_mem' ([] : List Int) (l := p.2.1) (n := (i - p.1.length).toNat) (by omega))
   omega
  ·split
   ·decide
   ·simp
def showF (p : Pl) (l : List Th) : Nat → Int → List Int
 | 0, _ => []
 | n + 1, i => if inR l i = true then (if leafN l i = true then nameN p (symN l i) else ([40] ++ nameN p (symN l i)) ++ ((kidsN l i).flatMap fun k => 32 :: showF p l n k) ++ [41]) else []
def showN (p : Pl) (l : List Th) (i : Int) : List Int := showF p l (i.toNat + 1) i
theorem showF_eq {p : Pl} {l : List Th} (h : Tr l) : ∀ (m : Nat) (i : Int) (n : Nat), i.toNat ≤ m → i.toNat < n → showF p l n i = showN p l i := by
 intro m
 induction m using Nat.strongRecOn with
 | _ m ih =>
  intro i n hm hn
  obtain ⟨n, rfl⟩ : ∃ k, n = k + 1 := ⟨n - 1, by omega⟩
  unfold showN
  simp only [showF]
  by_cases hi : inR l i = true
  ·rw [if_pos hi, if_pos hi]
   split
   ·rfl
   ·congr 2
    apply flatMap_congr'
    intro k hk
    have hk2 := (tr_below h i hi).2 k hk
    have hi' := inR_iff.1 hi
    rw [ih k.toNat (by omega) k n (Nat.le_refl _) (by omega), ih k.toNat (by omega) k i.toNat (Nat.le_refl _) (by omega)]
  ·rw [if_neg hi, if_neg hi]
theorem show_in {p : Pl} {l : List Th} (h : Tr l) {i : Int} (hi : inR l i = true) : showN p l i = if leafN l i = true then nameN p (symN l i) else ([40] ++ nameN p (symN l i)) ++ ((kidsN l i).flatMap fun k => 32 :: showN p l k) ++ [41] := by
 conv => lhs; unfold showN
 simp only [showF]
 rw [if_pos hi]
 split
 ·rfl
 ·congr 2
  apply flatMap_congr'
  intro k hk
  have hk2 := (tr_below h i hi).2 k hk
  have hi' := inR_iff.1 hi
  rw [showF_eq h k.toNat k i.toNat (Nat.le_refl _) (by omega)]
theorem show_out {p : Pl} {l : List Th} {i : Int} (hi : inR l i = false) : showN p l i = [] := by
 unfold showN showF
 rw [if_neg (by simp [hi])]
theorem show_len {p : Pl} {l : List Th} (hp : GoodP p) (h : Tr l) : ∀ (n : Nat) (i : Int), i.toNat ≤ n → inR l i = true → (showN p l i).length + 1 ≤ 10 * (below l i).length := by
 intro n
 induction n using Nat.strongRecOn with
 | _ n ih =>
  intro i hn hi
  have hi' := inR_iff.1 hi
  obtain ⟨q1, q2⟩ := tr_below h i hi
  have hnl := name_len hp (symN l i)
  have hb : (below l i).length = ((kidsN l i).flatMap (below l)).length + 1 := by rw [q1]; simp
  rw [show_in h hi]
  split
  ·omega
  ·have hs : ∀ ks : List Int, (∀ k ∈ ks, 0 ≤ k ∧ k < i) → (ks.flatMap fun k => 32 :: showN p l k).length ≤ 10 * (ks.flatMap (below l)).length := fun ks => by
    induction ks with
    | nil => intro _; simp
    | cons k ks ihk =>
     intro hk
     have h1 := hk k List.mem_cons_self
     have h2 := ihk fun q hq => hk q (List.mem_cons_of_mem _ hq)
     have h3 := ih k.toNat (by omega) k (Nat.le_refl _) (by rw [inR_iff]; omega)
     simp only [List.flatMap_cons, List.length_append, List.length_cons] at *
     omega
   have := hs _ q2
   simp only [List.length_append, List.length_cons, List.length_nil] at *
   omega
theorem show_le {p : Pl} {l : List Th} (hp : GoodP p) (h : Tr l) (i : Int) : (showN p l i).length ≤ 10 * l.length := by
 by_cases hi : inR l i = true
 ·have := show_len hp h i.toNat i (Nat.le_refl _) hi
  have := tr_size h i
  omega
 ·rw [show_out (by simpa using hi)]; simp
theorem shows_le {p : Pl} {l : List Th} (hp : GoodP p) (h : Tr l) {i : Int} (hi : inR l i = true) (hl : leafN l i = false) : ([40] ++ nameN p (symN l i)).length + ((kidsN l i).flatMap fun k => 32 :: showN p l k).length + 1 ≤ 10 * l.length := by
 have := show_le hp h i
 rw [show_in h hi, if_neg (by simp [hl])] at this
 simp only [List.length_append, List.length_cons, List.length_nil] at this ⊢
 omega
theorem rshow_ev (p : Pl) (hp : GoodP p) (g : Nat) (l : List Th) (a b c : Int) (h : Tr l) (hl : l.length ≤ 1000) : ∀ n : Nat, ∀ i : Int, i.toNat ≤ n → E 41 [.op (0, 0) [], .tv [] tPl p, iv i] (hR g (toRL l) a b c) (.tv [] .str (showN p l i)) (hR g (toRL l) a b c) := by
 have hlr : (toRL l).length = l.length := by simp
 have hn := fun i => rname_ev p hp i
 have hsl := fun i h1 h2 => shows_le hp h (i := i) h1 h2
 intro n
 induction n using Nat.strongRecOn with
 | _ n ih =>
  intro i hi0
  obtain ⟨p0, p1, p2, p3, p4, p5, _⟩ := p
  refine ev_of (vc41 p0 p1 p2 p3 p4 p5 i g (toRL l) a b c _ ?_)
  refine ⟨fun h1 => ?_, fun h1 => ⟨fun h2 => ?_, fun h2 => ?_⟩⟩
  ·(simp only [decide_eq_true_eq, decide_eq_false_iff_not, Bool.not_eq_true', Bool.not_eq_false'] at h1)
   rw [show_out (by cases e : inR l i with | false => rfl | true => have := inR_iff.1 e; omega)]; exact ⟨rfl, rfl⟩
  ·(simp only [decide_eq_true_eq, decide_eq_false_iff_not, Bool.not_eq_true', Bool.not_eq_false'] at h2)
   rw [show_out (by cases e : inR l i with | false => rfl | true => have := inR_iff.1 e; omega)]; exact ⟨rfl, rfl⟩
  ·(simp only [decide_eq_true_eq, decide_eq_false_iff_not, Bool.not_eq_true', Bool.not_eq_false'] at h1)
   (simp only [decide_eq_true_eq, decide_eq_false_iff_not, Bool.not_eq_true', Bool.not_eq_false'] at h2)
   have hi : inR l i = true := by rw [inR_iff]; omega
   have hx : 0 + Int.toNat i < (toRL l).length := by omega
   obtain ⟨q1, q2⟩ := tr_below h i hi
   have hkl := h.kidsN i
   rw [toRL_at hi, toR_sym hi, toR_leaf hi]
   refine ⟨⟨⟨by omega, by omega⟩⟩, ⟨rfl⟩, ⟨hx⟩, ⟨rfl⟩, ⟨hx⟩, ?_⟩
   ((repeat apply Exists.intro); refine And.intro (Need.mk (hn (symN l i))) ?_)
   refine ⟨⟨⟨by omega, by omega⟩⟩, ⟨rfl⟩, ⟨hx⟩, ⟨rfl⟩, ⟨hx⟩, fun h3 => ?_, fun h3 => ?_⟩
   ·rw [show_in h hi, if_pos h3]; exact ⟨rfl, rfl⟩
   ·have hsz := hsl i hi h3
    rw [show_in h hi, if_neg (by simp [h3])]
    obtain ⟨P, hP⟩ : ∃ P : Pl, P = (p0, p1, p2, p3, p4, p5, ()) := ⟨_, rfl⟩
    have ih' : ∀ m, m < n → ∀ i : Int, i.toNat ≤ m → E 41 [.op (0, 0) [], .tv [] tPl P, iv i] (hR g (toRL l) a b c) (.tv [] .str (showN P l i)) (hR g (toRL l) a b c) := fun m hm i hi => by rw [hP]; exact ih m hm i hi
    have hft := fun m => flat_take (fun k => 32 :: showN P l k) (kidsN l i) m
    rw [← hP] at hsz ⊢
    generalize hnm : nameN P (symN l i) = nm at *
    have hnl : nm.length ≤ 10000 := by simp only [List.length_append, List.length_cons, List.length_nil] at hsz; omega
    refine And.intro (Need.mk (by unfold bigN; omega)) ?_
    refine ⟨fun acc j γ m a' b' c' γ' y => ∃ k : Nat, j = k ∧ k ≤ (kidsN l i).length ∧ acc = ([40] ++ nm) ++ ((kidsN l i).take k).flatMap (fun k => 32 :: showN P l k) ∧ γ = (g : Int) ∧ m = ((toRL l).length : Int) ∧ a' = a ∧ b' = b ∧ c' = c ∧ γ' = (g : Int) ∧ y = toRL l, fun _ j _ _ _ _ _ _ _ => (((kidsN l i).length : Int) - j).toNat, ⟨(by first | trivial | exact rfl | exact ⟨rfl, rfl⟩ | omega)⟩, ⟨0, rfl, by omega, by simp, (by first | trivial | exact rfl | exact ⟨rfl, rfl⟩ | omega), (by first | trivial | exact rfl | exact ⟨rfl, rfl⟩ | omega), (by first | trivial | exact rfl | exact ⟨rfl, rfl⟩ | omega), (by first | trivial | exact rfl | exact ⟨rfl, rfl⟩ | omega), (by first | trivial | exact rfl | exact ⟨rfl, rfl⟩ | omega), (by first | trivial | exact rfl | exact ⟨rfl, rfl⟩ | omega), (by first | trivial | exact rfl | exact ⟨rfl, rfl⟩ | omega)⟩, ?_⟩
    rintro _ _ _ _ a b c _ _ ⟨k, rfl, hk, rfl, rfl, rfl, e1, e2, e3, rfl, rfl⟩
    subst e1 e2 e3
    have hf1 := hft k
    simp only [List.length_append, List.length_cons, List.length_nil] at hsz
    rw [toRL_at hi, toR_kids hi]
    have hy : 0 ≤ i ∧ i < (Int.toNat ((toRL l).length : Int) : Int) := ⟨by omega, by omega⟩
    refine ⟨⟨hy⟩, ⟨rfl⟩, ⟨hx⟩, ⟨rfl⟩, ⟨hx⟩, fun h4 => ?_, fun h4 => ?_⟩
    ·have h4' : (k : Int) < ((kidsN l i).length : Int) := of_decide_eq_true h4
     have hk' : k < (kidsN l i).length := by omega
     have hlt := q2 _ (getD_mem' (0 : Int) hk')
     have hf2 := hft (k + 1)
     rw [take_snoc (0 : Int) hk', List.flatMap_append, List.length_append] at hf2
     simp only [List.flatMap_cons, List.flatMap_nil, List.append_nil, List.length_cons] at hf2
     refine ⟨⟨by unfold bigN; simp only [List.length_append, List.length_cons, List.length_nil]; omega⟩, ⟨hy⟩, ⟨rfl⟩, ⟨hx⟩, ⟨rfl⟩, ⟨hx⟩, ⟨⟨by omega, h4'⟩⟩, ?_⟩
     ((repeat apply Exists.intro); refine And.intro (Need.mk (ih' ((kidsN l i).getD k 0).toNat (by omega) ((kidsN l i).getD k 0) (Nat.le_refl _))) ?_)
     refine ⟨⟨by unfold bigN; simp only [List.length_append, List.length_cons, List.length_nil]; omega⟩, ⟨by omega⟩, ⟨(by first | trivial | exact rfl | exact ⟨rfl, rfl⟩ | omega)⟩, ⟨k + 1, by omega, by omega, ?_, (by first | trivial | exact rfl | exact ⟨rfl, rfl⟩ | omega), (by first | trivial | exact rfl | exact ⟨rfl, rfl⟩ | omega), (by first | trivial | exact rfl | exact ⟨rfl, rfl⟩ | omega), (by first | trivial | exact rfl | exact ⟨rfl, rfl⟩ | omega), (by first | trivial | exact rfl | exact ⟨rfl, rfl⟩ | omega), (by first | trivial | exact rfl | exact ⟨rfl, rfl⟩ | omega), (by first | trivial | exact rfl | exact ⟨rfl, rfl⟩ | omega)⟩, ⟨by ((try dsimp only); omega)⟩⟩
     rw [take_snoc (0 : Int) hk', List.flatMap_append]; simp
    ·have h4' : ¬ (k : Int) < ((kidsN l i).length : Int) := of_decide_eq_false h4
     have : k = (kidsN l i).length := by omega
     subst this
     rw [List.take_length] at hf1 ⊢
     exact ⟨⟨by unfold bigN; simp only [List.length_append, List.length_cons, List.length_nil]; omega⟩, rfl, rfl⟩
end Go.Am.T
namespace Go.Am.T
open Go
set_option maxRecDepth 100000
theorem join_ev (x : List qT2) (sep : List Int) (hl : x.length ≤ bigN) (hn : (List.intercalate sep x).length ≤ 140737488355328) : E 62 [.tv [] (.slice .str) x, .tv [] .str sep] [] (.tv [] .str (List.intercalate sep x)) [] := by
 refine ev_call (k := 1) ?_
 have e : orc.prim 62 = some joinPrim := rfl
 simp only [callF, e]
 show Option.map _ (if List.length x ≤ bigN ∧ List.length (List.intercalate sep x) ≤ 140737488355328 then some (AV.tv [] .str (List.intercalate sep x)) else none) = _
 rw [if_pos ⟨hl, hn⟩]; rfl
theorem inter_flat : ∀ (bs : List qT2) (a : List Int), List.intercalate [32] (a :: bs) = a ++ bs.flatMap fun b => 32 :: b
 | [], a => by simp [List.intercalate]
 | b :: bs, a => by
  have ih := inter_flat bs b
  have e : List.intercalate [32] (a :: b :: bs) = a ++ ([32] ++ List.intercalate [32] (b :: bs)) := by simp [List.intercalate]
  rw [e, ih]; simp
theorem show_ev (p : Pl) (hp : GoodP p) (g : Nat) (l z : List Th) (cc a b c : Int) (h : Tr l) (hl : l.length ≤ 1000) : ∀ n : Nat, ∀ i : Int, i.toNat ≤ n → E 40 [.op (0, 0) [], .tv [] tPl p, iv i] (hT g l z cc a b c) (.tv [] .str (showN p l i)) (hT g l z cc a b c) := by
 have hn := fun i => nm_ev p hp i
 have hsl := fun i h1 h2 => shows_le hp h (i := i) h1 h2
 intro n
 induction n using Nat.strongRecOn with
 | _ n ih =>
  intro i hi0
  obtain ⟨p0, p1, p2, p3, p4, p5, _⟩ := p
  refine ev_of (vc40 p0 p1 p2 p3 p4 p5 i g (l ++ z) l.length cc a b c _ ?_)
  ((repeat apply Exists.intro); refine And.intro (Need.mk (at_ev g l z cc a b c i)) ?_)
  refine ⟨fun h1 => ?_, fun h1 => ?_⟩
  ·rw [show_out (by simpa using h1)]; exact ⟨rfl, rfl⟩
  ·have hi : inR l i = true := by simpa using h1
   obtain ⟨q1, q2⟩ := tr_below h i hi
   have hi' := inR_iff.1 hi
   have hkl := h.kidsN i
   ((repeat apply Exists.intro); refine And.intro (Need.mk (sym_tv g l z cc a b c i)) ?_)
   ((repeat apply Exists.intro); refine And.intro (Need.mk (hn (symN l i))) ?_)
   ((repeat apply Exists.intro); refine And.intro (Need.mk (leaf_tv g l z cc a b c i)) ?_)
   refine ⟨fun h3 => ?_, fun h3 => ?_⟩
   ·rw [show_in h hi, if_pos h3]; exact ⟨rfl, rfl⟩
   ·have hsz := hsl i hi h3
    rw [show_in h hi, if_neg (by simp [h3])]
    obtain ⟨P, hP⟩ : ∃ P : Pl, P = (p0, p1, p2, p3, p4, p5, ()) := ⟨_, rfl⟩
    have ih' : ∀ m, m < n → ∀ i : Int, i.toNat ≤ m → E 40 [.op (0, 0) [], .tv [] tPl P, iv i] (hT g l z cc a b c) (.tv [] .str (showN P l i)) (hT g l z cc a b c) := fun m hm i hi => by rw [hP]; exact ih m hm i hi
    have hft := flat_take (fun k => 32 :: showN P l k) (kidsN l i) (kidsN l i).length
    rw [← hP] at hsz ⊢
    generalize hnm : nameN P (symN l i) = nm at *
    have hnl : nm.length ≤ 10000 := by simp only [List.length_append, List.length_cons, List.length_nil] at hsz; omega
    refine And.intro (Need.mk (by unfold bigN; omega)) ?_
    ((repeat apply Exists.intro); refine And.intro (Need.mk (kids_tv g l z cc a b c i (h.kidsN i))) ?_)
    refine ⟨fun acc j γ m cc' a' b' c' γ' y => ∃ k : Nat, j = k ∧ k ≤ (kidsN l i).length ∧ acc = ([40] ++ nm) :: ((kidsN l i).take k).map (showN P l) ∧ γ = (g : Int) ∧ m = (l.length : Int) ∧ cc' = cc ∧ a' = a ∧ b' = b ∧ c' = c ∧ γ' = (g : Int) ∧ y = l ++ z, fun _ j _ _ _ _ _ _ _ _ => (((kidsN l i).length : Int) - j).toNat, ⟨(by first | trivial | exact rfl | exact ⟨rfl, rfl⟩ | omega)⟩, ⟨0, rfl, by omega, by simp, (by first | trivial | exact rfl | exact ⟨rfl, rfl⟩ | omega), (by first | trivial | exact rfl | exact ⟨rfl, rfl⟩ | omega), (by first | trivial | exact rfl | exact ⟨rfl, rfl⟩ | omega), (by first | trivial | exact rfl | exact ⟨rfl, rfl⟩ | omega), (by first | trivial | exact rfl | exact ⟨rfl, rfl⟩ | omega), (by first | trivial | exact rfl | exact ⟨rfl, rfl⟩ | omega), (by first | trivial | exact rfl | exact ⟨rfl, rfl⟩ | omega), (by first | trivial | exact rfl | exact ⟨rfl, rfl⟩ | omega)⟩, ?_⟩
    rintro _ _ _ _ cc a b c _ _ ⟨k, rfl, hk, rfl, rfl, rfl, e0, e1, e2, e3, rfl, rfl⟩
    subst e0 e1 e2 e3
    have hml : (((kidsN l i).take k).map (showN P l)).length ≤ 1000 := by simp only [List.length_map, List.length_take]; omega
    refine ⟨fun h4 => ?_, fun h4 => ?_⟩
    ·(simp only [decide_eq_true_eq, decide_eq_false_iff_not, Bool.not_eq_true', Bool.not_eq_false'] at h4)
     have hk' : k < (kidsN l i).length := by omega
     have hlt := q2 _ (getD_mem' (0 : Int) hk')
     refine And.intro (Need.mk ⟨by omega, by omega⟩) ?_
     ((repeat apply Exists.intro); refine And.intro (Need.mk (ih' ((kidsN l i).getD k 0).toNat (by omega) ((kidsN l i).getD k 0) (Nat.le_refl _))) ?_)
     refine ⟨⟨by unfold bigN; simp only [List.length_cons, List.length_nil]; omega⟩, ⟨by omega⟩, ⟨⟨rfl, rfl⟩⟩, ⟨k + 1, by omega, by omega, ?_, (by first | trivial | exact rfl | exact ⟨rfl, rfl⟩ | omega), (by first | trivial | exact rfl | exact ⟨rfl, rfl⟩ | omega), (by first | trivial | exact rfl | exact ⟨rfl, rfl⟩ | omega), (by first | trivial | exact rfl | exact ⟨rfl, rfl⟩ | omega), (by first | trivial | exact rfl | exact ⟨rfl, rfl⟩ | omega), (by first | trivial | exact rfl | exact ⟨rfl, rfl⟩ | omega), (by first | trivial | exact rfl | exact ⟨rfl, rfl⟩ | omega), (by first | trivial | exact rfl | exact ⟨rfl, rfl⟩ | omega)⟩, ⟨by ((try dsimp only); omega)⟩⟩
     rw [take_snoc (0 : Int) hk', List.map_append]; rfl
    ·(simp only [decide_eq_true_eq, decide_eq_false_iff_not, Bool.not_eq_true', Bool.not_eq_false'] at h4)
     have : k = (kidsN l i).length := by omega
     subst this
     rw [List.take_length] at hft hml ⊢
     have hj : List.intercalate [32] (([40] ++ nm) :: (kidsN l i).map (showN P l)) = ([40] ++ nm) ++ (kidsN l i).flatMap (fun k => 32 :: showN P l k) := by
      rw [inter_flat, List.flatMap_map]
     have cj := join_ev (([40] ++ nm) :: (kidsN l i).map (showN P l)) [32] (by unfold bigN; simp only [List.length_cons]; omega) (by rw [hj, List.length_append]; omega)
     rw [hj] at cj
     ((repeat apply Exists.intro); refine And.intro (Need.mk (cj)) ?_)
     exact ⟨⟨by unfold bigN; simp only [List.length_append]; simp only [List.length_append] at hsz; omega⟩, rfl, rfl⟩
end Go.Am.T
