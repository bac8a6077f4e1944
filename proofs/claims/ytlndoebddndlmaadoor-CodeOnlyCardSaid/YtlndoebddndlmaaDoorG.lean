/-
  A part of the proof of a law: see the text that states it.
-/
import Derived.Test.YtlndoebddndlmaaDoorF
import Derived.Test.YtlndoebddndlmaaDoorVc5
set_option linter.all false
namespace Go.Am.R
open Go
set_option maxRecDepth 100000
/-! The document's check; how much lies on the stack. -/
theorem fits_iff (k n a : Int) : fitsK k n a = true ↔ (1 ≤ k ∧ k ≤ 9) ∧ 0 ≤ n ∧ n ≤ 999999999999999999 ∧ (k ≤ 3 ∨ n = 0) ∧ ((k = 2 ∨ k = 3) → 0 < n ∧ n ≤ a) := by
  simp only [fitsK, isK, hasK, Bool.and_eq_true, Bool.or_eq_true, decide_eq_true_eq, Bool.not_eq_true', Bool.or_eq_false_iff, decide_eq_false_iff_not]
  constructor
  · rintro ⟨⟨⟨⟨h1, h2⟩, h3⟩, h4⟩, h5⟩
    refine ⟨h1, h2, h3, ?_, fun h => ?_⟩ <;> omega
  · rintro ⟨h1, h2, h3, h4, h5⟩
    refine ⟨⟨⟨⟨h1, h2⟩, h3⟩, ?_⟩, ?_⟩ <;> omega
theorem takes_nn (k : Int) : 0 ≤ takesK k ↔ (1 ≤ k ∧ k ≤ 9) := by unfold takesK; (repeat' split) <;> omega
theorem rcheck_ev (l : List Op2) (arity : Int) (hl : l.length ≤ 1000) : E 21 [.tv [] (.slice tOp) l, .tv [] (.int .i64) arity] [] (.tup [.tv [] (.int .i64) (check l arity).1, .tv [] (.int .i64) (check l arity).2]) [] := by
  refine ev_of (vc21 l arity _ ?_)
  have hfin : ∀ {a b : Int}, (a, b) = check l arity → AV.tup [.tv [] (.int .i64) a, .tv [] (.int .i64) b] = AV.tup [.tv [] (.int .i64) (check l arity).1, .tv [] (.int .i64) (check l arity).2] := fun h => by rw [← h]
  refine ⟨fun n i => ∃ m : Nat, i = m ∧ m ≤ l.length ∧ 0 ≤ n ∧ n ≤ m ∧ checkGo arity (l.drop m) n m = check l arity, fun n i => (l.length - i).toNat, ⟨0, rfl, by omega, by omega, by omega, rfl⟩, ?_⟩
  rintro n _ ⟨m, rfl, hm, h0, hn, hc⟩
  refine ⟨fun h => ?_, fun h => ?_⟩
  · (simp only [decide_eq_true_eq, decide_eq_false_iff_not, Bool.not_eq_true', Bool.not_eq_false'] at h)
    have hm' : m < l.length := by omega
    rw [drop_consI ((0 : Int), (0 : Int), ()) hm'] at hc
    simp only [checkGo] at hc
    generalize hx : l.getD (Int.toNat (m : Int)) ((0 : Int), (0 : Int), ()) = x at *
    clear hx
    have hfi := fits_iff x.1 x.2.1 arity
    have htn := takes_nn x.1
    have hbd := takesK_bd x.1
    by_cases hbad : fitsK x.1 x.2.1 arity = false ∨ n < takesK x.1
    · rw [if_pos hbad] at hc
      have hbad' : fitsK x.1 x.2.1 arity = true → n < takesK x.1 := fun h => by
        rcases hbad with h' | h'
        · rw [h] at h'; cases h'
        · exact h'
      rw [hfi] at hbad'
      clear hbad hfi
      (repeat' (first | (intro _) | (refine And.intro ?_ ?_) | (refine Exists.intro _ (And.intro (Need.mk (takes_ev _)) ?_)) | (refine Exists.intro _ (Exists.intro _ (And.intro (Need.mk (takes_ev _)) ?_))) | (refine Exists.intro _ (Exists.intro _ (Exists.intro _ (And.intro (Need.mk (takes_ev _)) ?_)))) | (refine Need.mk ?_)))
      all_goals first
        | omega
        | exact hfin hc
        | (with_reducible rfl)
        | (exfalso; clear hc hfin; (simp only [decide_eq_true_eq, decide_eq_false_iff_not, Bool.not_eq_true', Bool.not_eq_false', Bool.and_eq_true, Bool.or_eq_true, Bool.and_true, Bool.true_and] at *); omega)
    · rw [if_neg hbad] at hc
      have hok : fitsK x.1 x.2.1 arity = true := by
        cases hf : fitsK x.1 x.2.1 arity with
        | true => rfl
        | false => exact absurd (.inl hf) hbad
      rw [hfi] at hok
      have hnt : ¬ n < takesK x.1 := fun h => hbad (.inr h)
      clear hbad hfi
      have e : n - takesK x.1 + 1 = n + (1 - takesK x.1) := by omega
      (repeat' (first | (intro _) | (refine And.intro ?_ ?_) | (refine Exists.intro _ (And.intro (Need.mk (takes_ev _)) ?_)) | (refine Exists.intro _ (Exists.intro _ (And.intro (Need.mk (takes_ev _)) ?_))) | (refine Exists.intro _ (Exists.intro _ (Exists.intro _ (And.intro (Need.mk (takes_ev _)) ?_)))) | (refine Need.mk ?_)))
      all_goals first
        | omega
        | exact ⟨m + 1, by omega, by omega, by omega, by omega, by rw [e]; exact hc⟩
        | (exfalso; clear hc hfin; (simp only [decide_eq_true_eq, decide_eq_false_iff_not, Bool.not_eq_true', Bool.not_eq_false', Bool.and_eq_true, Bool.or_eq_true, Bool.and_true, Bool.true_and] at *); omega)
        | ((try dsimp only); omega)
  · (simp only [decide_eq_true_eq, decide_eq_false_iff_not, Bool.not_eq_true', Bool.not_eq_false'] at h)
    have : m = l.length := by omega
    subst this
    rw [List.drop_length] at hc
    simp only [checkGo] at hc
    clear h hm
    by_cases h1 : l.length = 0 ∨ n = 1
    · rw [if_pos h1] at hc
      (repeat' (first | (intro _) | (refine And.intro ?_ ?_) | (refine Need.mk ?_)))
      all_goals first | exact hfin hc | (with_reducible rfl) | (exfalso; clear hc hfin; (simp only [decide_eq_true_eq, decide_eq_false_iff_not, Bool.not_eq_true', Bool.not_eq_false', Bool.and_eq_true, Bool.or_eq_true, Bool.and_true, Bool.true_and] at *); omega)
    · rw [if_neg h1] at hc
      (repeat' (first | (intro _) | (refine And.intro ?_ ?_) | (refine Need.mk ?_)))
      all_goals first | exact hfin hc | (with_reducible rfl) | (exfalso; clear hc hfin; (simp only [decide_eq_true_eq, decide_eq_false_iff_not, Bool.not_eq_true', Bool.not_eq_false', Bool.and_eq_true, Bool.or_eq_true, Bool.and_true, Bool.true_and] at *); omega)

def depthGo : List Op2 → Int → Int → Int
  | [], _, most => most
  | x :: l, n, most => if isK x.1 = false ∨ n < takesK x.1 then most else depthGo l (n + (1 - takesK x.1)) (max most (n + (1 - takesK x.1)))
def depth (l : List Op2) : Int := depthGo l 0 0
theorem isK_iff (k : Int) : isK k = true ↔ 1 ≤ k ∧ k ≤ 9 := by simp [isK]
theorem depth_ev (l : List Op2) (hl : l.length ≤ 1000) : E 20 [.tv [] (.slice tOp) l] [] (.tv [] (.int .i64) (depth l)) [] := by
  refine ev_of (vc20 l _ ?_)
  refine ⟨fun n most i => ∃ m : Nat, i = m ∧ m ≤ l.length ∧ 0 ≤ n ∧ n ≤ m ∧ depthGo (l.drop m) n most = depth l, fun n most i => (l.length - i).toNat, ⟨0, rfl, by omega, by omega, by omega, rfl⟩, ?_⟩
  rintro n most _ ⟨m, rfl, hm, h0, hn, hc⟩
  refine ⟨fun h => ?_, fun h => ?_⟩
  · (simp only [decide_eq_true_eq, decide_eq_false_iff_not, Bool.not_eq_true', Bool.not_eq_false'] at h)
    have hm' : m < l.length := by omega
    rw [drop_consI ((0 : Int), (0 : Int), ()) hm'] at hc
    simp only [depthGo] at hc
    refine ⟨⟨by omega⟩, _, ⟨is_ev _⟩, ?_⟩
    generalize hx : l.getD (Int.toNat (m : Int)) ((0 : Int), (0 : Int), ()) = x at *
    refine ⟨fun hb => ?_, fun hb => ?_⟩
    · (simp only [decide_eq_true_eq, decide_eq_false_iff_not, Bool.not_eq_true', Bool.not_eq_false'] at hb)
      rw [if_pos (.inl hb)] at hc
      exact ⟨tvI hc, by trivial⟩
    · (simp only [decide_eq_true_eq, decide_eq_false_iff_not, Bool.not_eq_true', Bool.not_eq_false'] at hb)
      have hk := (isK_iff _).1 hb
      have ht := takesL_eq hk
      have hbd := takesK_bd x.1
      have hnn := takesK_nn hk
      rw [ht]
      refine ⟨⟨by omega⟩, ⟨by omega⟩, fun hc2 => ?_, fun hc2 => ?_⟩
      · (simp only [decide_eq_true_eq, decide_eq_false_iff_not, Bool.not_eq_true', Bool.not_eq_false'] at hc2)
        rw [if_pos (.inr hc2)] at hc
        exact ⟨tvI hc, by trivial⟩
      · (simp only [decide_eq_true_eq, decide_eq_false_iff_not, Bool.not_eq_true', Bool.not_eq_false'] at hc2)
        rw [if_neg (by simp [hb]; omega)] at hc
        exact ⟨⟨by omega⟩, ⟨by omega⟩, ⟨by omega⟩, ⟨by omega⟩, ⟨by omega⟩, ⟨m + 1, rfl, by omega, by omega, by omega, hc⟩, ⟨by ((try dsimp only); omega)⟩⟩
  · (simp only [decide_eq_true_eq, decide_eq_false_iff_not, Bool.not_eq_true', Bool.not_eq_false'] at h)
    have : m = l.length := by omega
    subst this
    rw [List.drop_length] at hc
    simp only [depthGo] at hc
    exact ⟨tvI hc, by trivial⟩
theorem rdepth_ev (l : List Op2) (hl : l.length ≤ 1000) : E 24 [.tv [] (.slice tOp) l] [] (.tv [] (.int .i64) (depth l)) [] := by
  refine ev_of (vc24 l _ ?_)
  refine ⟨fun n most i => ∃ m : Nat, i = m ∧ m ≤ l.length ∧ 0 ≤ n ∧ n ≤ m ∧ depthGo (l.drop m) n most = depth l, fun n most i => (l.length - i).toNat, ⟨0, rfl, by omega, by omega, by omega, rfl⟩, ?_⟩
  rintro n most _ ⟨m, rfl, hm, h0, hn, hc⟩
  refine ⟨fun h => ?_, fun h => ?_⟩
  · (simp only [decide_eq_true_eq, decide_eq_false_iff_not, Bool.not_eq_true', Bool.not_eq_false'] at h)
    have hm' : m < l.length := by omega
    rw [drop_consI ((0 : Int), (0 : Int), ()) hm'] at hc
    simp only [depthGo] at hc
    refine ⟨⟨by omega⟩, _, ⟨takes_ev _⟩, ?_⟩
    generalize hx : l.getD (Int.toNat (m : Int)) ((0 : Int), (0 : Int), ()) = x at *
    have hbd := takesK_bd x.1
    have htn := takes_nn x.1
    have hk := isK_iff x.1
    refine ⟨fun hb => ?_, fun hb => ?_⟩
    · (simp only [decide_eq_true_eq, decide_eq_false_iff_not, Bool.not_eq_true', Bool.not_eq_false'] at hb)
      rw [if_pos (.inl (by
        cases hi : isK x.1 with
        | false => rfl
        | true => have := hk.1 hi; omega))] at hc
      exact ⟨tvI hc, by trivial⟩
    · (simp only [decide_eq_true_eq, decide_eq_false_iff_not, Bool.not_eq_true', Bool.not_eq_false'] at hb)
      have hi : isK x.1 = true := hk.2 (htn.1 (by omega))
      refine ⟨fun hc2 => ?_, fun hc2 => ?_⟩
      · (simp only [decide_eq_true_eq, decide_eq_false_iff_not, Bool.not_eq_true', Bool.not_eq_false'] at hc2)
        rw [if_pos (.inr hc2)] at hc
        exact ⟨tvI hc, by trivial⟩
      · (simp only [decide_eq_true_eq, decide_eq_false_iff_not, Bool.not_eq_true', Bool.not_eq_false'] at hc2)
        rw [if_neg (by simp [hi]; omega)] at hc
        have e : n - takesK x.1 + 1 = n + (1 - takesK x.1) := by omega
        rw [e]
        exact ⟨⟨by omega⟩, ⟨by omega⟩, ⟨by omega⟩, ⟨m + 1, rfl, by omega, by omega, by omega, hc⟩, ⟨by ((try dsimp only); omega)⟩⟩
  · (simp only [decide_eq_true_eq, decide_eq_false_iff_not, Bool.not_eq_true', Bool.not_eq_false'] at h)
    have : m = l.length := by omega
    subst this
    rw [List.drop_length] at hc
    simp only [depthGo] at hc
    exact ⟨tvI hc, by trivial⟩

theorem dec_len : ∀ (n : Nat) (l : List Int) (k : List Op2), l.length ≤ n → decR l = some k → k.length ≤ l.length
  | _, [], k, _, h => by rw [decR_nil] at h; cases h; simp
  | n + 1, c :: r, k, hn, h => by
    simp only [List.length_cons] at hn ⊢
    rw [decR_cons] at h
    split at h
    · cases h
    · split at h
      · split at h
        · cases h
        · simp only [Option.map_eq_some_iff] at h
          obtain ⟨k', h1, rfl⟩ := h
          have := dec_len n (r.drop 8) k' (by rw [List.length_drop]; omega) h1
          rw [List.length_drop] at this
          simp only [List.length_cons]; omega
      · simp only [Option.map_eq_some_iff] at h
        obtain ⟨k', h1, rfl⟩ := h
        have := dec_len n r k' (by omega) h1
        simp only [List.length_cons]; omega
theorem decR_len (b : List Int) : ((decR b).getD []).length ≤ b.length := by
  cases h : decR b with
  | none => simp
  | some k => exact dec_len b.length b k (Nat.le_refl _) h

theorem checks (l : List Op2) (arity : Int) (b : List Int) (hb : Byts b) : E 7 [.tv [] (.slice tOp) l, .tv [] (.int .i64) arity, .tv [] (.slice (.int .u8)) b] [] (.tv [] .bool true) [] := by
  refine ev_of (vc7 l arity b _ ?_)
  refine ⟨_, ⟨awake_ev⟩, fun _ => ⟨rfl, rfl⟩, fun h1 => ⟨fun _ => ⟨rfl, rfl⟩, fun h2 => ?_⟩⟩
  (simp only [decide_eq_true_eq, decide_eq_false_iff_not, Bool.not_eq_true', Bool.not_eq_false'] at h1)
  (simp only [decide_eq_true_eq, decide_eq_false_iff_not, Bool.not_eq_true', Bool.not_eq_false'] at h2)
  have hdl := decR_len b
  refine ⟨_, _, ⟨check_ev l arity (by omega)⟩, _, _, ⟨rcheck_ev l arity (by omega)⟩, _, _, ⟨dec_ev b hb (by omega)⟩, _, _, ⟨rdec_ev b hb (by omega)⟩, fun _ => ⟨fun _ => ⟨fun _ => ⟨_, ⟨depth_ev l (by omega)⟩, _, ⟨rdepth_ev l (by omega)⟩, fun _ => ⟨_, ⟨enc_ev l (by omega)⟩, _, ⟨renc_ev l (by omega)⟩, fun _ => ⟨_, ⟨ops_ev _ _ (by unfold bigN; omega)⟩, fun _ => ⟨tvB (by simp), rfl⟩, fun h => by simp at h⟩, fun h => by simp at h⟩, fun h => by simp at h⟩, fun h => by simp at h⟩, fun h => by simp at h⟩, fun h => by cases h⟩
end Go.Am.R
