/-
  A part of the proof of a law: see the text that states it.
-/
import Derived.Test.YtlndoebddndlmaaDoorG
import Derived.Test.YtlndoebddndlmaaDoorVc4
import Derived.Test.YtlndoebddndlmaaDoorVc6
set_option linter.all false
namespace Go.Am.R
open Go
set_option maxRecDepth 100000
/-! What a program builds. -/
abbrev X0 : XT := XT.mk 0 0 []
theorem clone_ev (N lo len : Nat) (l : List XT) (h0 : 0 < len) (hN : lo + len ≤ N) (hb : len ≤ 4294967296) (hl : N = l.length) : E 32 [.tv [] (.sref .expr) (some ((0, 0), (N, (lo, len))))] [((0, 0), ⟨⟨.arr true N .expr, l⟩, []⟩)] (.tv [[]] (.slice .expr) (cut l lo (lo + len))) [((0, 0), ⟨⟨.arr true N .expr, l⟩, []⟩)] := by
  refine ev_of (vc32 N lo len l _ ?_)
  have hc : (cut l lo (lo + len)).length = len := length_cutV l lo len (by omega)
  refine ⟨⟨h0⟩, fun h => (by cases h), fun _ => ⟨⟨rfl, hN⟩, ⟨by rw [hc]; unfold bigN; omega⟩, rfl, rfl⟩⟩
def exprGo : List Op2 → List XT → Option (List XT)
  | [], st => some st
  | x :: l, st => if isK x.1 = false ∨ (st.length : Int) < takesK x.1 then none else exprGo l (st.take (st.length - (takesK x.1).toNat) ++ [XT.mk x.1 x.2.1 (st.drop (st.length - (takesK x.1).toNat))])
def exprR (l : List Op2) : XT × Bool := if l.length = 0 then (X0, true) else match exprGo l [] with
  | some st => if st.length = 1 ∧ right (st.getD 0 X0) = true then (st.getD 0 X0, true) else (X0, false)
  | none => (X0, false)
theorem take_putL {α : Type} (l : List α) (y : α) (b : Nat) (h : b ≤ l.length) : (putL l [y] b).take (b + 1) = l.take b ++ [y] := by
  unfold putL
  have e : (l.take b ++ [y]).length = b + 1 := by rw [List.length_append, List.length_take, List.length_singleton]; omega
  rw [List.take_append_of_le_length (by omega), ← e, List.take_length]
theorem expr_ev (l : List Op2) (hl : l.length ≤ 1000) : E 16 [.tv [] (.slice tOp) l] [] (.tup [.tv [] .expr (exprR l).1, .tv [] .bool (exprR l).2]) [] := by
  refine ev_of (vc16 l _ ?_)
  have hfin : ∀ {x : XT} {b : Bool}, exprR l = (x, b) → AV.tup [.tv [] .expr x, .tv [] .bool b] = AV.tup [.tv [] .expr (exprR l).1, .tv [] .bool (exprR l).2] := fun h => by rw [h]
  refine ⟨fun z2 z3 z4 z5 z6 => ∃ m sl : Nat, z4 = m ∧ m ≤ l.length ∧ z3 = sl ∧ z2 = (z5.length : Nat) ∧ sl ≤ z5.length ∧ z5.length ≤ m ∧ sizeNL (z5.take sl) = m ∧ exprGo (l.drop m) (z5.take sl) = exprGo l [], fun z2 z3 z4 z5 z6 => (l.length - z4).toNat, ⟨rfl⟩, ⟨0, 0, rfl, by omega, rfl, rfl, by omega, by simp, rfl, rfl⟩, ?_⟩
  rintro _ _ _ z5 z6 ⟨m, sl, rfl, hm, rfl, rfl, hsl, hz, hsz, hc⟩
  refine ⟨fun h => ?_, fun h => ?_⟩
  · (simp only [decide_eq_true_eq, decide_eq_false_iff_not, Bool.not_eq_true', Bool.not_eq_false'] at h)
    have hm' : m < l.length := by omega
    rw [drop_consI ((0 : Int), (0 : Int), ()) hm'] at hc
    simp only [exprGo] at hc
    have hst : (z5.take sl).length = sl := by rw [List.length_take]; omega
    rw [hst] at hc
    refine ⟨⟨by omega⟩, _, ⟨is_ev _⟩, ?_⟩
    generalize hx : l.getD (Int.toNat (m : Int)) ((0 : Int), (0 : Int), ()) = x at *
    have bad : exprGo l [] = none → exprR l = (X0, false) := fun h => by
      unfold exprR; rw [if_neg (by omega), h]
    refine ⟨fun hb => ?_, fun hb => ?_⟩
    · (simp only [decide_eq_true_eq, decide_eq_false_iff_not, Bool.not_eq_true', Bool.not_eq_false'] at hb)
      rw [if_pos (.inl hb)] at hc
      exact ⟨hfin (bad hc.symm), by trivial⟩
    · (simp only [decide_eq_true_eq, decide_eq_false_iff_not, Bool.not_eq_true', Bool.not_eq_false'] at hb)
      have hk := (isK_iff _).1 hb
      have ht := takesL_eq hk
      have hbd := takesK_bd x.1
      have hnn := takesK_nn hk
      rw [ht]
      generalize htt : takesK x.1 = t at hc hbd hnn ⊢
      obtain ⟨t, rfl⟩ := Int.eq_ofNat_of_zero_le hnn
      refine ⟨⟨by omega⟩, ⟨by omega⟩, fun hc2 => ?_, fun hc2 => ?_⟩
      · (simp only [decide_eq_true_eq, decide_eq_false_iff_not, Bool.not_eq_true', Bool.not_eq_false'] at hc2)
        rw [if_pos (.inr (by omega))] at hc
        exact ⟨hfin (bad hc.symm), by trivial⟩
      · (simp only [decide_eq_true_eq, decide_eq_false_iff_not, Bool.not_eq_true', Bool.not_eq_false'] at hc2)
        have hts : t ≤ sl := by omega
        rw [if_neg (by simp [hb]; omega), Int.toNat_natCast] at hc
        have hbase : Int.toNat (((Int.toNat ((sl : Nat) : Int) : Nat) : Int) - (t : Int)) = sl - t := by omega
        rw [hbase]
        have next : ∀ node : XT, node = XT.mk x.1 x.2.1 ((z5.take sl).drop (sl - t)) → ∃ m' sl' : Nat, (m : Int) + 1 = m' ∧ m' ≤ l.length ∧ (((sl - t) - 0 + List.length [node] : Nat) : Int) = sl' ∧ ((max z5.length ((sl - t) - 0 + List.length [node]) : Nat) : Int) = ((putL z5 [node] ((sl - t) - 0)).length : Nat) ∧ sl' ≤ (putL z5 [node] ((sl - t) - 0)).length ∧ (putL z5 [node] ((sl - t) - 0)).length ≤ m' ∧ sizeNL ((putL z5 [node] ((sl - t) - 0)).take sl') = m' ∧ exprGo (l.drop m') ((putL z5 [node] ((sl - t) - 0)).take sl') = exprGo l [] := by
          intro node hnode
          have hlen := length_putL z5 [node] (sl - t) (by omega)
          have htk := take_putL z5 node (sl - t) (by omega)
          have hpre : (z5.take sl).take (sl - t) = z5.take (sl - t) := by rw [List.take_take, Nat.min_eq_left (by omega)]
          rw [hpre, ← hnode, ← htk] at hc
          simp only [Nat.sub_zero, List.length_singleton] at hlen ⊢
          have hsz2 : sizeNL ((putL z5 [node] (sl - t)).take (sl - t + 1)) = m + 1 := by
            rw [htk, sizeNL_append, hnode]
            have := sizeNL_append ((z5.take sl).take (sl - t)) ((z5.take sl).drop (sl - t))
            rw [List.take_append_drop, hpre, hsz] at this
            simp only [sizeNL, sizeN]
            omega
          refine ⟨m + 1, sl - t + 1, by omega, by omega, rfl, by rw [hlen], by omega, by omega, hsz2, hc⟩
        have hnode1 : ∀ node : XT, 0 < List.length [node] := fun _ => by simp
        have hfit : ∀ node : XT, z5.length + List.length [node] ≤ bigN := fun _ => by unfold bigN; simp; omega
        have hmax : ∀ node : XT, max z5.length ((sl - t) - 0 + List.length [node]) = List.length (putL z5 [node] ((sl - t) - 0)) := fun node => by
          have hlen := length_putL z5 [node] (sl - t) (by omega)
          simp only [Nat.sub_zero, List.length_singleton] at hlen ⊢
          rw [hlen]
        refine ⟨⟨by omega⟩, ⟨by omega⟩, ⟨by omega⟩, fun hc3 => ?_, fun hc3 => ?_⟩
        · (simp only [decide_eq_true_eq, decide_eq_false_iff_not, Bool.not_eq_true', Bool.not_eq_false'] at hc3)
          have ht0 : 0 < t := by omega
          have hcut : cut z5 (0 + (sl - t)) (0 + (sl - t) + (Int.toNat ((Int.toNat ((sl : Nat) : Int) : Nat) : Int) - (sl - t))) = (z5.take sl).drop (sl - t) := by
            unfold cut
            rw [show 0 + (sl - t) + (Int.toNat ((Int.toNat ((sl : Nat) : Int) : Nat) : Int) - (sl - t)) = sl by omega, Nat.zero_add]
          refine ⟨⟨by omega⟩, _, _, ⟨clone_ev _ _ _ z5 (by omega) (by omega) (by omega) (by omega)⟩, ?_⟩
          rw [hcut]
          exact ⟨⟨by omega⟩, ⟨by omega, by omega, hnode1 _, hfit _⟩, ⟨by omega⟩, ⟨hmax _⟩, next _ rfl, ⟨by ((try dsimp only); omega)⟩⟩
        · (simp only [decide_eq_true_eq, decide_eq_false_iff_not, Bool.not_eq_true', Bool.not_eq_false'] at hc3)
          have ht0 : t = 0 := by omega
          subst ht0
          have hd : (z5.take sl).drop (sl - 0) = [] := by rw [Nat.sub_zero, List.drop_eq_nil_of_le (by omega)]
          rw [hd] at next
          exact ⟨⟨by omega⟩, ⟨by omega, by omega, hnode1 _, hfit _⟩, ⟨by omega⟩, ⟨hmax _⟩, next _ rfl, ⟨by ((try dsimp only); omega)⟩⟩
  · (simp only [decide_eq_true_eq, decide_eq_false_iff_not, Bool.not_eq_true', Bool.not_eq_false'] at h)
    have : m = l.length := by omega
    subst this
    rw [List.drop_length] at hc
    simp only [exprGo] at hc
    have hst : (z5.take sl).length = sl := by rw [List.length_take]; omega
    refine ⟨fun h1 => ?_, fun h1 => ⟨fun h2 => ?_, fun h2 => ?_⟩⟩
    · (simp only [decide_eq_true_eq, decide_eq_false_iff_not, Bool.not_eq_true', Bool.not_eq_false'] at h1)
      exact ⟨hfin (by unfold exprR; rw [if_pos (by omega)]), by trivial⟩
    · (simp only [decide_eq_true_eq, decide_eq_false_iff_not, Bool.not_eq_true', Bool.not_eq_false'] at h1)
      (simp only [decide_eq_true_eq, decide_eq_false_iff_not, Bool.not_eq_true', Bool.not_eq_false'] at h2)
      exact ⟨hfin (by unfold exprR; rw [if_neg (by omega), ← hc]; simp only; rw [if_neg (by rw [hst]; omega)]), by trivial⟩
    · (simp only [decide_eq_true_eq, decide_eq_false_iff_not, Bool.not_eq_true', Bool.not_eq_false'] at h1)
      (simp only [decide_eq_true_eq, decide_eq_false_iff_not, Bool.not_eq_true', Bool.not_eq_false'] at h2)
      have hs1 : sl = 1 := by omega
      subst hs1
      have hg : (z5.take 1).getD 0 X0 = z5.getD 0 X0 := by
        cases z5 with
        | nil => rfl
        | cons a r => rfl
      have hmem : z5.getD 0 X0 ∈ z5.take 1 := by
        cases z5 with
        | nil => simp at hsl
        | cons a r => simp
      have hss : sizeN (z5.getD 0 (XT.mk 0 0 [])) ≤ sizeNL (z5.take 1) := sizeNL_mem hmem
      refine ⟨⟨by omega⟩, ⟨by omega⟩, ⟨by omega⟩, _, ⟨right_ev _ (size_small (by omega))⟩, fun hr => ?_, fun hr => ⟨⟨by omega⟩, ⟨by omega⟩, ⟨by omega⟩, ?_, by trivial⟩⟩
      · (simp only [decide_eq_true_eq, decide_eq_false_iff_not, Bool.not_eq_true', Bool.not_eq_false'] at hr)
        exact ⟨hfin (by unfold exprR; rw [if_neg (by omega), ← hc]; simp only; rw [if_neg (by rw [hg, hr]; simp)]), by trivial⟩
      · (simp only [decide_eq_true_eq, decide_eq_false_iff_not, Bool.not_eq_true', Bool.not_eq_false'] at hr)
        exact hfin (by unfold exprR; rw [if_neg (by omega), ← hc]; simp only; rw [if_pos (by rw [hg, hst]; exact ⟨rfl, hr⟩), hg])
end Go.Am.R
