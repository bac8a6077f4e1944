/-
  A part of the proof of a law: see the text that states it.
-/
import Derived.Test.YtlndoebddndlmaaDoorC
import Derived.Test.YtlndoebddndlmaaDoorK
import Derived.Test.YtlndoebddndlmaaDoorVc2
set_option linter.all false
namespace Go.Am.R
open Go
set_option maxRecDepth 100000
theorem compiles (x : XT) : E 3 [.tv [] .expr x] [] (.tv [] .bool true) [] := by
  refine ev_of (vc3 x _ ?_)
  refine ⟨_, ⟨awake_ev⟩, _, ⟨few_ev x 60 30 (by omega) (by omega) (by omega) (by omega)⟩, fun h => ⟨rfl, rfl⟩, fun h => ?_⟩
  (simp only [decide_eq_true_eq, decide_eq_false_iff_not, Bool.not_eq_true', Bool.not_eq_false'] at h)
  have hs := few_size x 60 30 (by omega)
  have hz : sizeN x ≤ 60 := by omega
  refine ⟨fun _ => ⟨_, ⟨comp_ev x (by omega)⟩, _, ⟨rcomp_ev x (by omega)⟩, _, ⟨ops_ev _ _ ?_⟩, ?_, rfl⟩, fun g => by cases g⟩
  · have := comp_len x; unfold bigN; omega
  · exact tvB (by simp)

/-! Which op may not be. -/
def checkGo (arity : Int) : List Op2 → Int → Nat → Int × Int
  | [], n, i => if i = 0 ∨ n = 1 then (0, 0) else ((i : Int), 31)
  | x :: l, n, i => if fitsK x.1 x.2.1 arity = false ∨ n < takesK x.1 then ((i : Int), 31) else checkGo arity l (n + (1 - takesK x.1)) (i + 1)
def check (l : List Op2) (arity : Int) : Int × Int := checkGo arity l 0 0
theorem fits_ev' (x : Op2) (arity : Int) : E 29 [.tv [] tOp x, .tv [] (.int .i64) arity] [] (.tv [] .bool (fitsK x.1 x.2.1 arity)) [] := fits_ev x.1 x.2.1 arity
theorem fitsK_is {k n a : Int} (h : fitsK k n a = true) : 1 ≤ k ∧ k ≤ 9 := by
  simp [fitsK, isK] at h; omega
theorem takesL_eq {k : Int} (h : 1 ≤ k ∧ k ≤ 9) : List.getD takesL k.toNat 0 = takesK k := by
  have : k = 1 ∨ k = 2 ∨ k = 3 ∨ k = 4 ∨ k = 5 ∨ k = 6 ∨ k = 7 ∨ k = 8 ∨ k = 9 := by omega
  rcases this with rfl | rfl | rfl | rfl | rfl | rfl | rfl | rfl | rfl <;> decide
theorem takesK_bd (k : Int) : -1 ≤ takesK k ∧ takesK k ≤ 2 := by unfold takesK; (repeat' split) <;> omega
theorem takesK_nn {k : Int} (h : 1 ≤ k ∧ k ≤ 9) : 0 ≤ takesK k := by unfold takesK; (repeat' split) <;> omega
theorem check_ev (l : List Op2) (arity : Int) (hl : l.length ≤ 1000) : E 14 [.tv [] (.slice tOp) l, .tv [] (.int .i64) arity] [] (.tup [.tv [] (.int .i64) (check l arity).1, .tv [] (.int .i64) (check l arity).2]) [] := by
  refine ev_of (vc14 l arity _ ?_)
  have hfin : ∀ {a b : Int}, (a, b) = check l arity → AV.tup [.tv [] (.int .i64) a, .tv [] (.int .i64) b] = AV.tup [.tv [] (.int .i64) (check l arity).1, .tv [] (.int .i64) (check l arity).2] := fun h => by rw [← h]
  refine ⟨fun n i => ∃ m : Nat, i = m ∧ m ≤ l.length ∧ 0 ≤ n ∧ n ≤ m ∧ checkGo arity (l.drop m) n m = check l arity, fun n i => (l.length - i).toNat, ⟨0, rfl, by omega, by omega, by omega, rfl⟩, ?_⟩
  rintro n _ ⟨m, rfl, hm, h0, hn, hc⟩
  refine ⟨fun h => ?_, fun h => ?_⟩
  · (simp only [decide_eq_true_eq, decide_eq_false_iff_not, Bool.not_eq_true', Bool.not_eq_false'] at h)
    have hm' : m < l.length := by omega
    rw [drop_consI ((0 : Int), (0 : Int), ()) hm'] at hc
    simp only [checkGo] at hc
    refine ⟨⟨by omega⟩, _, ⟨fits_ev' _ _⟩, ?_⟩
    generalize hx : l.getD (Int.toNat (m : Int)) ((0 : Int), (0 : Int), ()) = x at *
    refine ⟨fun hb => ?_, fun hb => ?_⟩
    · (simp only [decide_eq_true_eq, decide_eq_false_iff_not, Bool.not_eq_true', Bool.not_eq_false'] at hb)
      rw [if_pos (.inl hb)] at hc
      exact ⟨hfin hc, by trivial⟩
    · (simp only [decide_eq_true_eq, decide_eq_false_iff_not, Bool.not_eq_true', Bool.not_eq_false'] at hb)
      have hk := fitsK_is hb
      have ht := takesL_eq hk
      have hbd := takesK_bd x.1
      have hnn := takesK_nn hk
      rw [ht]
      refine ⟨⟨by omega⟩, ⟨by omega⟩, fun hc2 => ?_, fun hc2 => ?_⟩
      · (simp only [decide_eq_true_eq, decide_eq_false_iff_not, Bool.not_eq_true', Bool.not_eq_false'] at hc2)
        rw [if_pos (.inr hc2)] at hc
        exact ⟨hfin hc, by trivial⟩
      · (simp only [decide_eq_true_eq, decide_eq_false_iff_not, Bool.not_eq_true', Bool.not_eq_false'] at hc2)
        rw [if_neg (by simp [hb]; omega)] at hc
        exact ⟨⟨by omega⟩, ⟨by omega⟩, ⟨by omega⟩, ⟨by omega⟩, ⟨by omega⟩, ⟨m + 1, rfl, by omega, by omega, by omega, hc⟩, ⟨by ((try dsimp only); omega)⟩⟩
  · (simp only [decide_eq_true_eq, decide_eq_false_iff_not, Bool.not_eq_true', Bool.not_eq_false'] at h)
    have : m = l.length := by omega
    subst this
    rw [List.drop_length] at hc
    simp only [checkGo] at hc
    refine ⟨fun h1 => ⟨fun h2 => ?_, fun h2 => ?_⟩, fun h1 => ?_⟩
    · (simp only [decide_eq_true_eq, decide_eq_false_iff_not, Bool.not_eq_true', Bool.not_eq_false', Bool.and_eq_true, Bool.or_eq_true, Bool.and_true, Bool.true_and] at *); rw [if_neg (by omega)] at hc; exact ⟨hfin hc, by trivial⟩
    · (simp only [decide_eq_true_eq, decide_eq_false_iff_not, Bool.not_eq_true', Bool.not_eq_false', Bool.and_eq_true, Bool.or_eq_true, Bool.and_true, Bool.true_and] at *); rw [if_pos (by omega)] at hc; exact ⟨hfin hc, by trivial⟩
    · (simp only [decide_eq_true_eq, decide_eq_false_iff_not, Bool.not_eq_true', Bool.not_eq_false', Bool.and_eq_true, Bool.or_eq_true, Bool.and_true, Bool.true_and] at *); rw [if_pos (by omega)] at hc; exact ⟨hfin hc, by trivial⟩

theorem checkGo_bd (arity : Int) : ∀ (l : List Op2) (n : Int) (i : Nat), checkGo arity l n i = (0, 0) ∨ ∃ j : Nat, i ≤ j ∧ j ≤ i + l.length ∧ checkGo arity l n i = ((j : Int), 31)
  | [], n, i => by
    simp only [checkGo]
    split
    · exact .inl rfl
    · exact .inr ⟨i, by omega, by simp, rfl⟩
  | x :: l, n, i => by
    simp only [checkGo]
    split
    · exact .inr ⟨i, by omega, by omega, rfl⟩
    · rcases checkGo_bd arity l (n + (1 - takesK x.1)) (i + 1) with h | ⟨j, h1, h2, h3⟩
      · exact .inl h
      · exact .inr ⟨j, by omega, by simp; omega, h3⟩
theorem checkGo_pre (arity : Int) (more : List Op2) : ∀ (l : List Op2) (n : Int) (i j : Nat), checkGo arity l n i = ((j : Int), 31) → j < i + l.length → i ≤ j → checkGo arity (l.take (j + 1 - i) ++ more) n i = ((j : Int), 31) ∧ (checkGo arity (l.take (j - i)) n i = (0, 0) ∨ checkGo arity (l.take (j - i)) n i = ((j : Int), 31))
  | [], n, i, j, h, hj, hi => by simp at hj; omega
  | x :: l, n, i, j, h, hj, hi => by
    simp only [checkGo] at h
    split at h
    · rename_i hc
      have : i = j := by simp at h; omega
      subst this
      rw [show i + 1 - i = 1 by omega, show i - i = 0 by omega]
      refine ⟨?_, ?_⟩
      · simp only [List.take_succ_cons, List.take_zero, List.cons_append, List.nil_append, checkGo]
        rw [if_pos hc]
      · simp only [List.take_zero, checkGo]
        split
        · exact .inl rfl
        · exact .inr rfl
    · rename_i hc
      have hij : i + 1 ≤ j := by
        rcases checkGo_bd arity l (n + (1 - takesK x.1)) (i + 1) with h' | ⟨j', h1, h2, h3⟩
        · rw [h'] at h; simp at h
        · rw [h3] at h; simp at h; omega
      obtain ⟨g1, g2⟩ := checkGo_pre arity more l (n + (1 - takesK x.1)) (i + 1) j h (by simp at hj; omega) hij
      rw [show j + 1 - i = (j + 1 - (i + 1)) + 1 by omega, show j - i = (j - (i + 1)) + 1 by omega]
      simp only [List.take_succ_cons, List.cons_append, checkGo]
      rw [if_neg hc, if_neg hc]
      exact ⟨g1, g2⟩
theorem prefixes (l : List Op2) (arity : Int) (more : List Op2) : E 4 [.tv [] (.slice tOp) l, .tv [] (.int .i64) arity, .tv [] (.slice tOp) more] [] (.tv [] .bool true) [] := by
  refine ev_of (vc4 l arity more _ ?_)
  refine ⟨_, ⟨awake_ev⟩, fun _ => ⟨rfl, rfl⟩, fun h1 => ⟨fun _ => ⟨rfl, rfl⟩, fun h2 => ⟨_, _, ⟨check_ev l arity (by (simp only [decide_eq_true_eq, decide_eq_false_iff_not, Bool.not_eq_true', Bool.not_eq_false'] at h1); omega)⟩, ?_⟩⟩⟩
  (simp only [decide_eq_true_eq, decide_eq_false_iff_not, Bool.not_eq_true', Bool.not_eq_false'] at h1)
  (simp only [decide_eq_true_eq, decide_eq_false_iff_not, Bool.not_eq_true', Bool.not_eq_false'] at h2)
  have hbd := checkGo_bd arity l 0 0
  rw [show checkGo arity l 0 0 = check l arity from rfl] at hbd
  simp only [Nat.zero_add] at hbd
  rcases hbd with hc | ⟨j, _, hj, hc⟩
  · rw [hc]
    refine ⟨fun h => ⟨fun _ => ⟨fun _ => ⟨tvB ?_, rfl⟩, fun h => ?_⟩, fun h => by cases h⟩, fun h => by simp at h⟩
    · simp
    · cases h
  · rw [hc]
    refine ⟨fun h => by simp at h, fun _ => ⟨fun h => ⟨fun _ => ⟨fun _ => ⟨tvB ?_, rfl⟩, fun h => ?_⟩, fun h => by cases h⟩, fun h => ?_⟩⟩
    · simp; omega
    · simp at h
    · (simp only [decide_eq_true_eq, decide_eq_false_iff_not, Bool.not_eq_true', Bool.not_eq_false'] at h)
      have hpre := checkGo_pre arity more l 0 0 j hc (by omega) (by omega)
      simp only [Nat.sub_zero] at hpre
      have e1 : cut l 0 (Int.toNat ((j : Int) + 1)) = l.take (j + 1) := by
        rw [show ((j : Int) + 1).toNat = j + 1 by omega]; simp [cut]
      have e2 : cut l 0 (Int.toNat (j : Int)) = l.take j := by simp [cut]
      have hl1 : (l.take (j + 1)).length ≤ 60 := by rw [List.length_take]; omega
      have hl2 : (l.take j).length ≤ 60 := by rw [List.length_take]; omega
      rw [e1, e2, List.nil_append]
      obtain ⟨p1, p2⟩ := hpre
      have c1 : check (l.take (j + 1) ++ more) arity = ((j : Int), 31) := p1
      refine ⟨⟨by omega⟩, ⟨by omega⟩, ⟨by unfold bigN; omega⟩, ⟨by unfold bigN; omega⟩, _, _, ⟨check_ev _ arity (by rw [List.length_append]; omega)⟩, ⟨by omega⟩, _, _, ⟨check_ev _ arity (by omega)⟩, ?_⟩
      rw [c1]
      refine ⟨fun _ => ⟨fun _ => ⟨fun _ => ⟨fun _ => ⟨fun _ => ⟨rfl, rfl⟩, fun h => ⟨tvB ?_, rfl⟩⟩, fun h => by simp at h⟩, fun h => by simp at h⟩, fun h => by simp at h⟩, fun h => by cases h⟩
      (simp only [decide_eq_true_eq, decide_eq_false_iff_not, Bool.not_eq_true', Bool.not_eq_false'] at h)
      rcases p2 with p2 | p2
      · rw [show check (l.take j) arity = (0, 0) from p2] at h; exact absurd rfl h
      · rw [show check (l.take j) arity = ((j : Int), 31) from p2]; simp
end Go.Am.R
