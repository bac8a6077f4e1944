/-
  A part of the proof of a law: see the text that states it.
-/
import Derived.Test.YtgfkdbplahpknaaM
set_option linter.all false
namespace Go.Am.T
open Go
set_option maxRecDepth 100000
theorem few_ev (l : List Op) (hl : l.length ≤ maxLen) : ∃ b : Bool, (b = true → l.length ≤ 40 ∧ ∀ o ∈ l, o.2.2.2.2.1.length ≤ 10) ∧ E 21 [.tv [] (.slice tOp) l] [] (bv b) [] := by
 unfold maxLen at hl
 have key : EvF PP orc 21 [.tv [] (.slice tOp) l] [] fun v h => ∃ b : Bool, (b = true → l.length ≤ 40 ∧ ∀ o ∈ l, o.2.2.2.2.1.length ≤ 10) ∧ v = bv b ∧ h = [] := by
  refine vc21 l _ ?_
  refine ⟨fun i => ∃ k : Nat, i = k ∧ k ≤ l.length ∧ ∀ o ∈ l.take k, o.2.2.2.2.1.length ≤ 10, fun i => ((l.length : Int) - i).toNat, ⟨0, rfl, by omega, by simp⟩, ?_⟩
  rintro _ ⟨k, rfl, hk, hv⟩
  refine ⟨fun h => ?_, fun h => ?_⟩
  ·(simp only [decide_eq_true_eq, decide_eq_false_iff_not, Bool.not_eq_true', Bool.not_eq_false'] at h)
   have hk' : k < l.length := by omega
   simp only [Int.toNat_natCast]
   refine ⟨⟨by omega⟩, fun h2 => ⟨false, nofun, rfl, (by first | trivial | exact rfl | exact ⟨rfl, rfl⟩ | omega)⟩, fun h2 => ⟨⟨by omega⟩, ⟨k + 1, by omega, by omega, ?_⟩, ⟨by ((try dsimp only); omega)⟩⟩⟩
   (simp only [decide_eq_true_eq, decide_eq_false_iff_not, Bool.not_eq_true', Bool.not_eq_false'] at h2)
   rw [take_snoc ((0 : Int), ((0 : Int), ((0 : Int), (((0 : Int), ((0 : Int), ((0 : Int), ()))), (([] : List Int), ()))))) hk']
   intro o ho
   rcases List.mem_append.1 ho with ho | ho
   ·exact hv o ho
   ·simp only [List.mem_singleton] at ho; rw [ho]; omega
  ·(simp only [decide_eq_true_eq, decide_eq_false_iff_not, Bool.not_eq_true', Bool.not_eq_false'] at h)
   have : k = l.length := by omega
   subst this
   rw [List.take_length] at hv
   exact ⟨_, fun h => ⟨by simp only [decide_eq_true_eq] at h; omega, hv⟩, rfl, (by first | trivial | exact rfl | exact ⟨rfl, rfl⟩ | omega)⟩
 obtain ⟨v, h', e, b, hb, rfl, rfl⟩ := key
 exact ⟨b, hb, e⟩
theorem Few_ev (s : Sml) (n m : Nat) (hl : s.2.2.2.1.length ≤ maxLen) : ∃ b : Bool, (b = true → s.2.2.1.length ≤ n ∧ s.2.2.2.2.2.1.length ≤ 5 ∧ ∀ x ∈ s.2.2.2.1, x.length ≤ m) ∧ E 20 [.tv [] tSm s, iv n, iv m] [] (bv b) [] := by
 obtain ⟨x0, x1, a2, a3, a4, a5, a6, _⟩ := s
 simp only at hl
 unfold maxLen at hl
 have key : EvF PP orc 20 [.tv [] tSm (x0, x1, a2, a3, a4, a5, a6, ()), iv n, iv m] [] fun v h => ∃ b : Bool, (b = true → a2.length ≤ n ∧ a5.length ≤ 5 ∧ ∀ x ∈ a3, x.length ≤ m) ∧ v = bv b ∧ h = [] := by
  refine vc20 x0 x1 a2 a3 a4 a5 a6 n m _ ⟨fun h => ⟨false, nofun, rfl, rfl⟩, fun h1 => ⟨fun h => ⟨false, nofun, rfl, rfl⟩, fun h2 => ?_⟩⟩
  (simp only [decide_eq_true_eq, decide_eq_false_iff_not, Bool.not_eq_true', Bool.not_eq_false'] at h1); (simp only [decide_eq_true_eq, decide_eq_false_iff_not, Bool.not_eq_true', Bool.not_eq_false'] at h2)
  refine ⟨fun i => ∃ k : Nat, i = k ∧ k ≤ a3.length ∧ ∀ o ∈ a3.take k, o.length ≤ m, fun i => ((a3.length : Int) - i).toNat, ⟨0, rfl, by omega, by simp⟩, ?_⟩
  rintro _ ⟨k, rfl, hk, hv⟩
  refine ⟨fun h => ?_, fun h => ?_⟩
  ·(simp only [decide_eq_true_eq, decide_eq_false_iff_not, Bool.not_eq_true', Bool.not_eq_false'] at h)
   have hk' : k < a3.length := by omega
   simp only [Int.toNat_natCast]
   refine ⟨⟨by omega⟩, fun h2 => ⟨false, nofun, rfl, (by first | trivial | exact rfl | exact ⟨rfl, rfl⟩ | omega)⟩, fun h2 => ⟨⟨by omega⟩, ⟨k + 1, by omega, by omega, ?_⟩, ⟨by ((try dsimp only); omega)⟩⟩⟩
   (simp only [decide_eq_true_eq, decide_eq_false_iff_not, Bool.not_eq_true', Bool.not_eq_false'] at h2)
   rw [take_snoc ([] : List Int) hk']
   intro o ho
   rcases List.mem_append.1 ho with ho | ho
   ·exact hv o ho
   ·simp only [List.mem_singleton] at ho; rw [ho]; omega
  ·(simp only [decide_eq_true_eq, decide_eq_false_iff_not, Bool.not_eq_true', Bool.not_eq_false'] at h)
   have : k = a3.length := by omega
   subst this
   rw [List.take_length] at hv
   exact ⟨true, fun _ => ⟨by omega, by omega, hv⟩, rfl, (by first | trivial | exact rfl | exact ⟨rfl, rfl⟩ | omega)⟩
 obtain ⟨v, h', e, b, hb, rfl, rfl⟩ := key
 exact ⟨b, hb, e⟩
abbrev hMade (g : Nat) (l z : List Th) (gr : Nat) (a b c : Int) : Heap := [oRt (1, 1) (1, 3) (1, 4) gr (toRL l).length, oRl (1, 4) gr (toRL l), oM (1, 3) a b c, oL (1, 6) g (l ++ z), oA (1, 2) (1, 5) (1, 6) g l.length b, oT (1, 0) (1, 2), oM (1, 5) a b c]
theorem made_ev (p : Pl) (hp : GoodP p) (ops : List Op) (hn : ops.length ≤ 40) (hk : ∀ o ∈ ops, o.2.2.2.2.1.length ≤ 10) :
  ∃ g l z gr b c, Ok 1000 40 l z b ∧ E 22 [.tv [] tPl p, .tv [] (.slice tOp) ops] [] (.tup [.op (1, 0) [], .op (1, 1) []]) (hMade g l z gr 1000 b c) := by
 obtain ⟨p0, p1, p2, p3, p4, p5, _⟩ := p
 have key : EvF PP orc 22 [.tv [] tPl (p0, p1, p2, p3, p4, p5, ()), .tv [] (.slice tOp) ops] [] fun v h => ∃ g l z gr b c, Ok 1000 40 l z b ∧ v = .tup [.op (1, 0) [], .op (1, 1) []] ∧ h = hMade g l z gr 1000 b c := by
  refine vc22 p0 p1 p2 p3 p4 p5 ops _ ?_
  ((repeat apply Exists.intro); refine And.intro (Need.mk (mnew_ev 1000)) ?_)
  ((repeat apply Exists.intro); refine And.intro (Need.mk (tnew_ev (heldK 1000) 0 0)) ?_)
  refine ⟨nofun, fun _ => ?_⟩
  refine ⟨fun i gr n gr' rl a b c g' y g m cc a' b' c' => ∃ (k G GR : Nat) (l z : List Th), i = k ∧ k ≤ ops.length ∧ gr = (GR : Int) ∧ n = ((toRL l).length : Int) ∧ gr' = (GR : Int) ∧ rl = toRL l ∧ a = 1000 ∧ g' = (G : Int) ∧ y = l ++ z ∧ g = (G : Int) ∧ m = (l.length : Int) ∧ cc = b ∧ a' = 1000 ∧ b' = b ∧ c' = c ∧ Ok 1000 k l z b,
   fun i _ _ _ _ _ _ _ _ _ _ _ _ _ _ _ => ((ops.length : Int) - i).toNat, ⟨(by first | trivial | exact rfl | exact ⟨rfl, rfl⟩ | omega)⟩, ⟨0, 0, 0, [], [], rfl, by omega, (by first | trivial | exact rfl | exact ⟨rfl, rfl⟩ | omega), (by first | trivial | exact rfl | exact ⟨rfl, rfl⟩ | omega), (by first | trivial | exact rfl | exact ⟨rfl, rfl⟩ | omega), (by first | trivial | exact rfl | exact ⟨rfl, rfl⟩ | omega), (by first | trivial | exact rfl | exact ⟨rfl, rfl⟩ | omega), (by first | trivial | exact rfl | exact ⟨rfl, rfl⟩ | omega), (by first | trivial | exact rfl | exact ⟨rfl, rfl⟩ | omega), (by first | trivial | exact rfl | exact ⟨rfl, rfl⟩ | omega), (by first | trivial | exact rfl | exact ⟨rfl, rfl⟩ | omega), (by first | trivial | exact rfl | exact ⟨rfl, rfl⟩ | omega), (by first | trivial | exact rfl | exact ⟨rfl, rfl⟩ | omega), (by first | trivial | exact rfl | exact ⟨rfl, rfl⟩ | omega), (by first | trivial | exact rfl | exact ⟨rfl, rfl⟩ | omega), ⟨.nil, rfl, by omega, by decide, by simp⟩⟩, ?_⟩
  rintro _ _ _ _ _ _ b c _ _ _ _ _ _ _ _ ⟨k, G, GR, l, z, rfl, hk1, rfl, rfl, rfl, rfl, rfl, rfl, rfl, rfl, rfl, rfl, rfl, rfl, rfl, H⟩
  rename_i cc b c
  refine ⟨fun h => ?_, fun h => ?_⟩
  ·(simp only [decide_eq_true_eq, decide_eq_false_iff_not, Bool.not_eq_true', Bool.not_eq_false'] at h)
   have hk' : k < ops.length := by omega
   have hm := getD_mem' ((0 : Int), ((0 : Int), ((0 : Int), (((0 : Int), ((0 : Int), ((0 : Int), ()))), (([] : List Int), ()))))) hk'
   have hlen := H.len
   rw [List.length_append] at hlen
   obtain ⟨o', h1, e1⟩ := told_ev (p0, p1, p2, p3, p4, p5, ()) hp GR l 1000 b c (ops.getD k ((0 : Int), ((0 : Int), ((0 : Int), (((0 : Int), ((0 : Int), ((0 : Int), ()))), (([] : List Int), ())))))) (by have := hk _ hm; omega) (by omega)
   obtain ⟨g', l', z', gr', b', c', H', e2⟩ := done_ev 1000 k G l z GR b c o' h1 (by omega) H
   simp only [Int.toNat_natCast]
   refine And.intro (Need.mk ⟨by omega, by omega⟩) ?_
   ((repeat apply Exists.intro); refine And.intro (Need.mk (e1)) ?_)
   ((repeat apply Exists.intro); refine And.intro (Need.mk (e2)) ?_)
   exact ⟨⟨by omega⟩, ⟨(by first | trivial | exact rfl | exact ⟨rfl, rfl⟩ | omega)⟩, ⟨k + 1, g', gr', l', z', by omega, by omega, (by first | trivial | exact rfl | exact ⟨rfl, rfl⟩ | omega), (by first | trivial | exact rfl | exact ⟨rfl, rfl⟩ | omega), (by first | trivial | exact rfl | exact ⟨rfl, rfl⟩ | omega), (by first | trivial | exact rfl | exact ⟨rfl, rfl⟩ | omega), (by first | trivial | exact rfl | exact ⟨rfl, rfl⟩ | omega), (by first | trivial | exact rfl | exact ⟨rfl, rfl⟩ | omega), (by first | trivial | exact rfl | exact ⟨rfl, rfl⟩ | omega), (by first | trivial | exact rfl | exact ⟨rfl, rfl⟩ | omega), (by first | trivial | exact rfl | exact ⟨rfl, rfl⟩ | omega), (by first | trivial | exact rfl | exact ⟨rfl, rfl⟩ | omega), (by first | trivial | exact rfl | exact ⟨rfl, rfl⟩ | omega), (by first | trivial | exact rfl | exact ⟨rfl, rfl⟩ | omega), (by first | trivial | exact rfl | exact ⟨rfl, rfl⟩ | omega), H'⟩, ⟨by ((try dsimp only); omega)⟩⟩
  ·(simp only [decide_eq_true_eq, decide_eq_false_iff_not, Bool.not_eq_true', Bool.not_eq_false'] at h)
   exact ⟨G, l, z, GR, b, c, ⟨H.tr, H.sum, H.le, H.lim, by have := H.len; omega⟩, (by first | trivial | exact rfl | exact ⟨rfl, rfl⟩ | omega), rfl⟩
 obtain ⟨v, h', e, g, l, z, gr, b, c, H, rfl, rfl⟩ := key
 exact ⟨g, l, z, gr, b, c, H, e⟩
end Go.Am.T
