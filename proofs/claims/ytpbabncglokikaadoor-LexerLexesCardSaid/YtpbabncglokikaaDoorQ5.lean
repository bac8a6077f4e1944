/-
  A part of the proof of a law: see the text that states it.
-/
import Derived.Test.YtpbabncglokikaaDoorQ4
set_option linter.all false
namespace Go.Am.L
open Go Go.Am.Pr
set_option maxRecDepth 100000
def foundT (n : Nat) : Tok → Fnd
  | .error (c, d) => (0, [], 0, c, (n : Int) + d, ())
  | .ok (kd, t, k, ok) => (if ok then kd else -1, t, (n : Int) + k, 0, 0, ())
theorem found_tok (n : Nat) (kd : Int) (o : Res) : foundT n (tokOf kd o) = foundR n kd o := by
  cases o with
  | error q => rfl
  | ok q => rfl
theorem tvF {a b : Fnd} (h : a = b) : (AV.tv [] tF a = AV.tv [] tF b) ∧ ([] : Heap) = [] := by subst h; exact ⟨rfl, rfl⟩
theorem idx_run : ∀ l : List Int, (if idxB l 10 < 0 then l.length else (idxB l 10).toNat) = runK (fun c => decide (c ≠ 10)) l
  | [] => rfl
  | a :: l => by
    have ih := idx_run l
    have hb := idxB_bound l 10
    have e : idxB (a :: l) 10 = if a = 10 then 0 else if idxB l 10 < 0 then -1 else idxB l 10 + 1 := rfl
    generalize idxB (a :: l) 10 = x at e ⊢
    simp only [runK]
    by_cases h : a = 10
    · rw [if_pos h] at e; subst e; simp [h]
    · rw [if_neg h] at e
      rw [if_pos (decide_eq_true h), ← ih]
      by_cases h2 : idxB l 10 < 0
      · rw [if_pos h2] at e ⊢; subst e; simp
      · rw [if_neg h2] at e ⊢; subst e; rw [if_neg (by omega)]; omega
theorem res_of {f : FuncId} {s : List Int} {n : Nat} {o : Res} {kd : Int} {T : Tok} (h : E f [.tv [] .str s, .tv [] (.int .i64) n] [] (.tv [] tF (foundR n kd o)) []) (e : T = tokOf kd o) :
    ∃ y1 : Int, ∃ y2 : List Int, ∃ y3 : Int, ∃ y4 : Int, ∃ y5 : Int, Need (E f [.tv [] .str s, .tv [] (.int .i64) n] [] (.tv [] tF (y1, (y2, (y3, (y4, (y5, ())))))) []) ∧ (AV.tv [] tF (y1, (y2, (y3, (y4, (y5, ()))))) = .tv [] tF (foundT n T) ∧ ([] : Heap) = []) := by
  subst e
  rw [found_tok]
  generalize foundR n kd o = w at *
  obtain ⟨a, b, c, d, e, ⟨⟩⟩ := w
  exact ⟨_, _, _, _, _, ⟨h⟩, rfl, rfl⟩
theorem rnext_ev (s : List Int) (n : Nat) (hn : n < s.length) (hl : s.length ≤ 1000000) (hs : ∀ c ∈ s, 0 ≤ c ∧ c < 256) :
    E 24 [.tv [] .str s, .tv [] (.int .i64) n] [] (.tv [] tF (foundT n (tokK (s.drop n)))) [] := by
  refine ev_of (vc24 s n _ ?_)
  have hd := drop_cons (0 : Int) hn
  have ht : tokK (s.drop n) = tokK (s.getD n 0 :: s.drop (n + 1)) := by rw [← hd]
  rw [tokK, ← hd] at ht
  have hbt := hs _ (getD_mem' 0 hn)
  have hword := rword_ev s n n rfl hn hl
  have htext := rtext_ev s n n rfl hn hl
  have hclass := rclass_ev s n n rfl hn hl hs
  have haction := raction_ev s n n rfl hn hl
  rw [Int.toNat_natCast]
  generalize hC : s.getD n 0 = C at *
  refine ⟨⟨by omega⟩, fun h1 => ⟨⟨by omega⟩, ?_⟩, fun h1 => ⟨fun h2 => ⟨⟨by omega⟩, ?_⟩, fun h2 => ⟨fun h3 => ⟨⟨by omega⟩, ?_⟩, fun h3 => ⟨fun h4 => ⟨⟨by omega⟩, ?_⟩, fun h4 => ?_⟩⟩⟩⟩
  · (simp only [decide_eq_true_eq, decide_eq_false_iff_not, Bool.not_eq_true', Bool.not_eq_false'] at h1); rw [ht, if_pos (by omega)]; exact tvF rfl
  · (simp only [decide_eq_true_eq, decide_eq_false_iff_not, Bool.not_eq_true', Bool.not_eq_false'] at h2); rw [ht, if_pos (by omega)]; exact tvF rfl
  · (simp only [decide_eq_true_eq, decide_eq_false_iff_not, Bool.not_eq_true', Bool.not_eq_false'] at h3); rw [ht, if_pos (by omega)]; exact tvF rfl
  · (simp only [decide_eq_true_eq, decide_eq_false_iff_not, Bool.not_eq_true', Bool.not_eq_false'] at h4); rw [ht, if_pos (by omega)]; exact tvF rfl
  (simp only [decide_eq_true_eq, decide_eq_false_iff_not, Bool.not_eq_true', Bool.not_eq_false'] at h1); (simp only [decide_eq_true_eq, decide_eq_false_iff_not, Bool.not_eq_true', Bool.not_eq_false'] at h2); (simp only [decide_eq_true_eq, decide_eq_false_iff_not, Bool.not_eq_true', Bool.not_eq_false'] at h3); (simp only [decide_eq_true_eq, decide_eq_false_iff_not, Bool.not_eq_true', Bool.not_eq_false'] at h4)
  rw [if_neg (by omega)] at ht
  refine ⟨fun h5 => ?_, fun h5 => ⟨_, ⟨let30_ev _⟩, fun h6 => ?_, fun h6 => ⟨fun h7 => ?_, fun h7 => ⟨fun h8 => ?_, fun h8 => ⟨fun h9 => ?_, fun h9 => ⟨fun h10 => ?_, fun h10 => ⟨fun h11 => ⟨⟨by omega⟩, ?_⟩, fun h11 => ⟨fun h12 => ⟨⟨by omega⟩, ?_⟩, fun h12 => ⟨fun h13 => ⟨⟨by omega⟩, ?_⟩, fun h13 => ⟨fun h14 => ⟨⟨by omega⟩, ?_⟩, fun h14 => ⟨_, _, _, _, _, ⟨rbad_ev _ _⟩, ?_⟩⟩⟩⟩⟩⟩⟩⟩⟩⟩⟩
  · (simp only [decide_eq_true_eq, decide_eq_false_iff_not, Bool.not_eq_true', Bool.not_eq_false'] at h5)
    rw [if_pos h5, idx_run] at ht
    have out : ∀ j, runK (fun c => decide (c ≠ 10)) (s.drop n) = j → (AV.tv [] tF (-1, [], ((n + j : Nat) : Int), 0, 0, ()) = AV.tv [] tF (foundT n (tokK (s.drop n)))) ∧ ([] : Heap) = [] := by
      intro j hj
      rw [ht, hj]
      refine tvF ?_
      unfold foundT; simp only [Bool.false_eq_true, if_false]
      rw [show ((n + j : Nat) : Int) = (n : Int) + j by omega]
    refine ⟨fun z => ∃ j : Nat, z = ((n + j : Nat) : Int) ∧ n + j ≤ s.length ∧ runK (fun c => decide (c ≠ 10)) (s.drop n) = j + runK (fun c => decide (c ≠ 10)) (s.drop (n + j)), fun z => (s.length - z).toNat, ⟨0, by omega, by omega, by simp⟩, ?_⟩
    rintro _ ⟨j, rfl, hj, hr⟩
    refine ⟨fun g => ⟨⟨?_⟩, fun g2 => ⟨⟨?_⟩, ⟨by trivial⟩, ⟨j + 1, by omega, ?_, ?_⟩, ⟨?_⟩⟩, fun g2 => ?_⟩, fun g => ?_⟩
    all_goals simp only [decide_eq_true_eq, decide_eq_false_iff_not] at g
    · omega
    · omega
    · omega
    · simp only [decide_eq_true_eq] at g2
      rw [Int.toNat_natCast] at g2
      rw [runK_go _ (drop_cons (0 : Int) (show n + j < s.length by omega)) (decide_eq_true g2)] at hr
      rw [hr, Nat.add_assoc]; omega
    · dsimp only; omega
    · simp only [decide_eq_false_iff_not] at g2
      rw [Int.toNat_natCast] at g2
      rw [runK_stop _ (drop_cons (0 : Int) (show n + j < s.length by omega)) (decide_eq_false g2)] at hr
      exact out j (by omega)
    · rw [List.drop_eq_nil_of_le (show s.length ≤ n + j by omega)] at hr
      exact out j hr
  · (simp only [decide_eq_true_eq, decide_eq_false_iff_not, Bool.not_eq_true', Bool.not_eq_false'] at h5)
    have h6' : letterK C = true := by rw [letR_eq hbt]; exact h6
    rw [if_neg h5, if_pos h6'] at ht
    have out : ∀ j, runK partK (s.drop n) = j → ¬ 32 < (j : Int) → (AV.tv [] tF (1, (s.drop n).take j, ((n + j : Nat) : Int), 0, 0, ()) = AV.tv [] tF (foundT n (tokK (s.drop n)))) ∧ ([] : Heap) = [] := by
      intro j hj h32
      rw [hj, if_neg h32] at ht
      rw [ht]
      refine tvF ?_
      unfold foundT; simp only [if_true]
      rw [show ((n + j : Nat) : Int) = (n : Int) + j by omega]
    have outb : ∀ j, runK partK (s.drop n) = j → 32 < (j : Int) → (AV.tv [] tF (0, [], 0, 12, (n : Int), ()) = AV.tv [] tF (foundT n (tokK (s.drop n)))) ∧ ([] : Heap) = [] := by
      intro j hj h32
      rw [hj, if_pos h32] at ht
      rw [ht]
      refine tvF ?_
      unfold foundT; simp only
      rw [show (n : Int) + ((0 : Nat) : Int) = (n : Int) by omega]
    refine ⟨fun z => ∃ j : Nat, z = ((n + j : Nat) : Int) ∧ n + j ≤ s.length ∧ runK partK (s.drop n) = j + runK partK (s.drop (n + j)), fun z => (s.length - z).toNat, ⟨0, by omega, by omega, by simp⟩, ?_⟩
    rintro _ ⟨j, rfl, hj, hr⟩
    rw [Int.toNat_natCast]
    have hsub : ((n + j : Nat) : Int) - (n : Int) = (j : Int) := by omega
    rw [hsub, cut_take]
    refine ⟨fun g => ?_, fun g => ⟨⟨by omega⟩, fun g5 => ⟨_, _, _, _, _, ⟨rbad_ev _ _⟩, ?_⟩, fun g5 => ⟨⟨by omega⟩, ?_⟩⟩⟩
    · (simp only [decide_eq_true_eq, decide_eq_false_iff_not, Bool.not_eq_true', Bool.not_eq_false'] at g)
      have hj' : n + j < s.length := by omega
      have hd2 := drop_cons (0 : Int) hj'
      have hb2 := hs _ (getD_mem' 0 hj')
      generalize s.getD (n + j) 0 = D at hd2 hb2 ⊢
      have go : (letR D || digR D) = true → ∃ j' : Nat, ((n + j : Nat) : Int) + 1 = ((n + j' : Nat) : Int) ∧ n + j' ≤ s.length ∧ runK partK (s.drop n) = j' + runK partK (s.drop (n + j')) := by
        intro hp
        rw [runK_go partK hd2 (by rw [partK_eq hb2]; exact hp)] at hr
        exact ⟨j + 1, by omega, by omega, by rw [hr, Nat.add_assoc]; omega⟩
      refine ⟨⟨by omega⟩, _, ⟨let30_ev _⟩, fun g2 => ⟨⟨by omega⟩, ⟨by trivial⟩, go (by rw [g2]; rfl), ⟨by ((try dsimp only); omega)⟩⟩, fun g2 => ⟨⟨by omega⟩, _, ⟨dig31_ev _⟩, fun g3 => ⟨⟨by omega⟩, ⟨by trivial⟩, go (by rw [g3, Bool.or_true]), ⟨by ((try dsimp only); omega)⟩⟩, fun g3 => ?_⟩⟩
      have hstop := runK_stop partK hd2 (by rw [partK_eq hb2, g2, g3]; rfl)
      rw [hstop] at hr
      refine ⟨⟨by omega⟩, fun g5 => ⟨_, _, _, _, _, ⟨rbad_ev _ _⟩, ?_⟩, fun g5 => ⟨⟨by omega⟩, ?_⟩⟩
      · (simp only [decide_eq_true_eq, decide_eq_false_iff_not, Bool.not_eq_true', Bool.not_eq_false'] at g5); exact outb j (by omega) g5
      · (simp only [decide_eq_true_eq, decide_eq_false_iff_not, Bool.not_eq_true', Bool.not_eq_false'] at g5); exact out j (by omega) g5
    · (simp only [decide_eq_true_eq, decide_eq_false_iff_not, Bool.not_eq_true', Bool.not_eq_false'] at g); (simp only [decide_eq_true_eq, decide_eq_false_iff_not, Bool.not_eq_true', Bool.not_eq_false'] at g5)
      rw [List.drop_eq_nil_of_le (show s.length ≤ n + j by omega)] at hr
      exact outb j hr g5
    · (simp only [decide_eq_true_eq, decide_eq_false_iff_not, Bool.not_eq_true', Bool.not_eq_false'] at g); (simp only [decide_eq_true_eq, decide_eq_false_iff_not, Bool.not_eq_true', Bool.not_eq_false'] at g5)
      rw [List.drop_eq_nil_of_le (show s.length ≤ n + j by omega)] at hr
      exact out j hr g5
  all_goals (have h6' : ¬ letterK C = true := by rw [letR_eq hbt, h6]; decide)
  all_goals simp only [decide_eq_true_eq, decide_eq_false_iff_not] at h5 h7
  all_goals rw [if_neg h5, if_neg h6'] at ht
  · rw [if_pos h7] at ht
    exact res_of hword ht
  · (simp only [decide_eq_true_eq, decide_eq_false_iff_not, Bool.not_eq_true', Bool.not_eq_false'] at h8); rw [if_neg h7, if_pos h8] at ht
    exact res_of htext ht
  · (simp only [decide_eq_true_eq, decide_eq_false_iff_not, Bool.not_eq_true', Bool.not_eq_false'] at h8); (simp only [decide_eq_true_eq, decide_eq_false_iff_not, Bool.not_eq_true', Bool.not_eq_false'] at h9); rw [if_neg h7, if_neg h8, if_pos h9] at ht
    exact res_of hclass ht
  · (simp only [decide_eq_true_eq, decide_eq_false_iff_not, Bool.not_eq_true', Bool.not_eq_false'] at h8); (simp only [decide_eq_true_eq, decide_eq_false_iff_not, Bool.not_eq_true', Bool.not_eq_false'] at h9); (simp only [decide_eq_true_eq, decide_eq_false_iff_not, Bool.not_eq_true', Bool.not_eq_false'] at h10); rw [if_neg h7, if_neg h8, if_neg h9, if_pos h10] at ht
    exact res_of (haction h10) ht
  · (simp only [decide_eq_true_eq, decide_eq_false_iff_not, Bool.not_eq_true', Bool.not_eq_false'] at h8); (simp only [decide_eq_true_eq, decide_eq_false_iff_not, Bool.not_eq_true', Bool.not_eq_false'] at h9); (simp only [decide_eq_true_eq, decide_eq_false_iff_not, Bool.not_eq_true', Bool.not_eq_false'] at h10); (simp only [decide_eq_true_eq, decide_eq_false_iff_not, Bool.not_eq_true', Bool.not_eq_false'] at h11); rw [if_neg h7, if_neg h8, if_neg h9, if_neg h10, if_pos (by omega)] at ht
    rw [ht, h11]; exact tvF rfl
  · (simp only [decide_eq_true_eq, decide_eq_false_iff_not, Bool.not_eq_true', Bool.not_eq_false'] at h8); (simp only [decide_eq_true_eq, decide_eq_false_iff_not, Bool.not_eq_true', Bool.not_eq_false'] at h9); (simp only [decide_eq_true_eq, decide_eq_false_iff_not, Bool.not_eq_true', Bool.not_eq_false'] at h10); (simp only [decide_eq_true_eq, decide_eq_false_iff_not, Bool.not_eq_true', Bool.not_eq_false'] at h11); (simp only [decide_eq_true_eq, decide_eq_false_iff_not, Bool.not_eq_true', Bool.not_eq_false'] at h12); rw [if_neg h7, if_neg h8, if_neg h9, if_neg h10, if_pos (by omega)] at ht
    rw [ht, h12]; exact tvF rfl
  · (simp only [decide_eq_true_eq, decide_eq_false_iff_not, Bool.not_eq_true', Bool.not_eq_false'] at h8); (simp only [decide_eq_true_eq, decide_eq_false_iff_not, Bool.not_eq_true', Bool.not_eq_false'] at h9); (simp only [decide_eq_true_eq, decide_eq_false_iff_not, Bool.not_eq_true', Bool.not_eq_false'] at h10); (simp only [decide_eq_true_eq, decide_eq_false_iff_not, Bool.not_eq_true', Bool.not_eq_false'] at h11); (simp only [decide_eq_true_eq, decide_eq_false_iff_not, Bool.not_eq_true', Bool.not_eq_false'] at h12); (simp only [decide_eq_true_eq, decide_eq_false_iff_not, Bool.not_eq_true', Bool.not_eq_false'] at h13); rw [if_neg h7, if_neg h8, if_neg h9, if_neg h10, if_pos (by omega)] at ht
    rw [ht, h13]; exact tvF rfl
  · (simp only [decide_eq_true_eq, decide_eq_false_iff_not, Bool.not_eq_true', Bool.not_eq_false'] at h8); (simp only [decide_eq_true_eq, decide_eq_false_iff_not, Bool.not_eq_true', Bool.not_eq_false'] at h9); (simp only [decide_eq_true_eq, decide_eq_false_iff_not, Bool.not_eq_true', Bool.not_eq_false'] at h10); (simp only [decide_eq_true_eq, decide_eq_false_iff_not, Bool.not_eq_true', Bool.not_eq_false'] at h11); (simp only [decide_eq_true_eq, decide_eq_false_iff_not, Bool.not_eq_true', Bool.not_eq_false'] at h12); (simp only [decide_eq_true_eq, decide_eq_false_iff_not, Bool.not_eq_true', Bool.not_eq_false'] at h13); (simp only [decide_eq_true_eq, decide_eq_false_iff_not, Bool.not_eq_true', Bool.not_eq_false'] at h14); rw [if_neg h7, if_neg h8, if_neg h9, if_neg h10, if_pos (by omega)] at ht
    rw [ht, h14]; exact tvF rfl
  · (simp only [decide_eq_true_eq, decide_eq_false_iff_not, Bool.not_eq_true', Bool.not_eq_false'] at h8); (simp only [decide_eq_true_eq, decide_eq_false_iff_not, Bool.not_eq_true', Bool.not_eq_false'] at h9); (simp only [decide_eq_true_eq, decide_eq_false_iff_not, Bool.not_eq_true', Bool.not_eq_false'] at h10); (simp only [decide_eq_true_eq, decide_eq_false_iff_not, Bool.not_eq_true', Bool.not_eq_false'] at h11); (simp only [decide_eq_true_eq, decide_eq_false_iff_not, Bool.not_eq_true', Bool.not_eq_false'] at h12); (simp only [decide_eq_true_eq, decide_eq_false_iff_not, Bool.not_eq_true', Bool.not_eq_false'] at h13); (simp only [decide_eq_true_eq, decide_eq_false_iff_not, Bool.not_eq_true', Bool.not_eq_false'] at h14); rw [if_neg h7, if_neg h8, if_neg h9, if_neg h10, if_neg (by omega)] at ht
    rw [ht]; refine tvF ?_
    unfold foundT; simp only
    rw [show (n : Int) + ((0 : Nat) : Int) = (n : Int) by omega]
end Go.Am.L
