/-
  A part of the proof of a law: see the text that states it.
-/
import Derived.Test.YtlndoebddndlmaaDoorB
set_option linter.all false
namespace Go.Am.R
open Go
set_option maxRecDepth 100000
mutual
def comp : XT → List Op2
  | .mk k n l => if k = 0 ∨ right (.mk k n l) = false then [] else compL l ++ [(k, n, ())]
def compL : List XT → List Op2
  | [] => []
  | x :: l => comp x ++ compL l
end
theorem compL_append : ∀ l m : List XT, compL (l ++ m) = compL l ++ compL m
  | [], m => rfl
  | x :: l, m => by simp [compL, compL_append l m]
theorem comp_eq (x : XT) : comp x = if x.kind = 0 ∨ right x = false then [] else compL x.kids ++ [(x.kind, x.num, ())] := by cases x; rfl
theorem comp_len : ∀ x : XT, (comp x).length ≤ sizeN x := by
  refine XT.ind' fun x ih => ?_
  have key : ∀ l : List XT, (∀ y ∈ l, (comp y).length ≤ sizeN y) → (compL l).length ≤ sizeNL l := by
    intro l
    induction l with
    | nil => intro _; simp [compL]
    | cons y l ihl =>
      intro h
      have h1 := h y (List.mem_cons_self ..)
      have h2 := ihl fun z hz => h z (List.mem_cons_of_mem _ hz)
      simp [compL, sizeNL]; omega
  rw [comp_eq, sizeN_eq]
  split
  · simp
  · have := key x.kids ih; simp; omega
theorem compL_len (l : List XT) : (compL l).length ≤ sizeNL l := by
  induction l with
  | nil => simp [compL]
  | cons y l ih => have := comp_len y; simp [compL, sizeNL]; omega
theorem sizeNL_append : ∀ l m : List XT, sizeNL (l ++ m) = sizeNL l + sizeNL m
  | [], m => by simp [sizeNL]
  | x :: l, m => by simp [sizeNL, sizeNL_append l m]; omega
theorem sizeNL_take (l : List XT) (n : Nat) : sizeNL (l.take n) ≤ sizeNL l := by
  have := sizeNL_append (l.take n) (l.drop n)
  rw [List.take_append_drop] at this; omega
theorem size_small {x : XT} (h : sizeN x ≤ 1000) : Small bigN x := small_of_size x (by unfold bigN; omega)
theorem comp_ev : ∀ x : XT, sizeN x ≤ 1000 → E 12 [.tv [] .expr x] [] (.tv [[]] (.slice tOp) (comp x)) [] := by
  refine XT.ind' fun x ih hs => ?_
  have hr := right_ev x (size_small hs)
  rw [sizeN_eq] at hs
  refine ev_of (vc12 _ _ ?_)
  have hc : ∀ (l m : List Op2), l.length + m.length ≤ 4000 → l.length + m.length ≤ bigN := fun l m h => by unfold bigN; omega
  refine ⟨fun h => ?_, fun h => ⟨_, ⟨hr⟩, fun g => ?_, fun g => ?_⟩⟩
  · (simp only [decide_eq_true_eq, decide_eq_false_iff_not, Bool.not_eq_true', Bool.not_eq_false'] at h); exact ⟨tvE (by rw [comp_eq, if_pos (.inl h)]), rfl⟩
  · (simp only [decide_eq_true_eq, decide_eq_false_iff_not, Bool.not_eq_true', Bool.not_eq_false'] at g); exact ⟨tvE (by rw [comp_eq, if_pos (.inr g)]), rfl⟩
  · (simp only [decide_eq_true_eq, decide_eq_false_iff_not, Bool.not_eq_true', Bool.not_eq_false'] at h)
    (simp only [decide_eq_true_eq, decide_eq_false_iff_not, Bool.not_eq_true', Bool.not_eq_false'] at g)
    have hce : comp x = compL x.kids ++ [(x.kind, x.num, ())] := by rw [comp_eq, if_neg (by simp [h, g])]
    have hkl := sizeNL_len x.kids
    refine ⟨fun l i => ∃ n : Nat, i = n ∧ n ≤ x.kids.length ∧ l = compL (x.kids.take n), fun l i => (x.kids.length - i).toNat, ⟨0, rfl, by omega, rfl⟩, ?_⟩
    rintro _ _ ⟨n, rfl, hn, rfl⟩
    have hl := compL_len (x.kids.take n)
    have hl2 := sizeNL_take x.kids n
    refine ⟨fun hl => ?_, fun hl => ?_⟩
    · (simp only [decide_eq_true_eq, decide_eq_false_iff_not, Bool.not_eq_true', Bool.not_eq_false'] at hl)
      have hn' : n < x.kids.length := by omega
      have hm := getD_mem' (XT.mk 0 0 []) hn'
      have hsz := sizeNL_mem hm
      have hcl := comp_len (x.kids.getD n (XT.mk 0 0 []))
      refine ⟨⟨by omega⟩, _, ⟨ih _ (getD_mem' _ (by simpa using hn')) (by simp only [Int.toNat_natCast]; omega)⟩, ⟨hc _ _ (by simp only [Int.toNat_natCast]; omega)⟩, ⟨by omega⟩, ⟨rfl⟩, ⟨n + 1, rfl, by omega, ?_⟩, ⟨by ((try dsimp only); omega)⟩⟩
      rw [take_snoc (XT.mk 0 0 []) hn', compL_append]
      simp [compL]
    · (simp only [decide_eq_true_eq, decide_eq_false_iff_not, Bool.not_eq_true', Bool.not_eq_false'] at hl)
      have : n = x.kids.length := by omega
      subst this
      refine ⟨⟨hc _ _ (by simp only [List.length_cons, List.length_nil]; omega)⟩, tvE ?_, rfl⟩
      rw [hce, List.take_length]
theorem rcomp_ev : ∀ x : XT, sizeN x ≤ 1000 → E 13 [.tv [] .expr x] [] (.tv [[]] (.slice tOp) (comp x)) [] := by
  refine XT.ind' fun x ih hs => ?_
  have hr := rright_ev x (size_small hs)
  rw [sizeN_eq] at hs
  refine ev_of (vc13 _ _ ?_)
  have hc : ∀ (l m : List Op2), l.length + m.length ≤ 4000 → l.length + m.length ≤ bigN := fun l m h => by unfold bigN; omega
  refine ⟨_, ⟨hr⟩, fun h => ?_, fun h => ⟨fun g => ?_, fun g => ?_⟩⟩
  · (simp only [decide_eq_true_eq, decide_eq_false_iff_not, Bool.not_eq_true', Bool.not_eq_false'] at h); exact ⟨tvE (by rw [comp_eq, if_pos (.inl h)]), rfl⟩
  · (simp only [decide_eq_true_eq, decide_eq_false_iff_not, Bool.not_eq_true', Bool.not_eq_false'] at g); exact ⟨tvE (by rw [comp_eq, if_pos (.inr g)]), rfl⟩
  · (simp only [decide_eq_true_eq, decide_eq_false_iff_not, Bool.not_eq_true', Bool.not_eq_false'] at h)
    (simp only [decide_eq_true_eq, decide_eq_false_iff_not, Bool.not_eq_true', Bool.not_eq_false'] at g)
    have hce : comp x = compL x.kids ++ [(x.kind, x.num, ())] := by rw [comp_eq, if_neg (by simp [h, g])]
    have hkl := sizeNL_len x.kids
    refine ⟨fun l i => ∃ n : Nat, i = n ∧ n ≤ x.kids.length ∧ l = compL (x.kids.take n), fun l i => (x.kids.length - i).toNat, ⟨0, rfl, by omega, rfl⟩, ?_⟩
    rintro _ _ ⟨n, rfl, hn, rfl⟩
    have hl := compL_len (x.kids.take n)
    have hl2 := sizeNL_take x.kids n
    refine ⟨fun hl => ?_, fun hl => ?_⟩
    · (simp only [decide_eq_true_eq, decide_eq_false_iff_not, Bool.not_eq_true', Bool.not_eq_false'] at hl)
      have hn' : n < x.kids.length := by omega
      have hm := getD_mem' (XT.mk 0 0 []) hn'
      have hsz := sizeNL_mem hm
      have hcl := comp_len (x.kids.getD n (XT.mk 0 0 []))
      refine ⟨⟨by omega⟩, _, ⟨ih _ (getD_mem' _ (by simpa using hn')) (by simp only [Int.toNat_natCast]; omega)⟩, ⟨hc _ _ (by simp only [Int.toNat_natCast]; omega)⟩, ⟨by omega⟩, ⟨rfl⟩, ⟨n + 1, rfl, by omega, ?_⟩, ⟨by ((try dsimp only); omega)⟩⟩
      rw [take_snoc (XT.mk 0 0 []) hn', compL_append]
      simp [compL]
    · (simp only [decide_eq_true_eq, decide_eq_false_iff_not, Bool.not_eq_true', Bool.not_eq_false'] at hl)
      have : n = x.kids.length := by omega
      subst this
      refine ⟨⟨hc _ _ (by simp only [List.length_cons, List.length_nil]; omega)⟩, tvE ?_, rfl⟩
      rw [hce, List.take_length]

/-! Are two programs one? -/
theorem op_eq (a b : Op2) : (decide (a.1 = b.1) && (decide (a.2.1 = b.2.1) && true)) = decide (a = b) := by
  obtain ⟨a1, a2, ⟨⟩⟩ := a
  obtain ⟨b1, b2, ⟨⟩⟩ := b
  simp
theorem ops_ev (a b : List Op2) (ha : a.length ≤ bigN) : E 11 [.tv [] (.slice tOp) a, .tv [] (.slice tOp) b] [] (.tv [] .bool (decide (a = b))) [] := by
  unfold bigN at ha
  refine ev_of (vc11 _ _ _ ?_)
  refine ⟨fun h => ?_, fun h => ?_⟩
  · (simp only [decide_eq_true_eq, decide_eq_false_iff_not, Bool.not_eq_true', Bool.not_eq_false'] at h)
    refine ⟨tvB ?_, rfl⟩
    symm
    simp only [decide_eq_false_iff_not]
    intro e; subst e; exact h rfl
  · (simp only [decide_eq_true_eq, decide_eq_false_iff_not, Bool.not_eq_true', Bool.not_eq_false'] at h)
    have hlen : a.length = b.length := by omega
    refine ⟨fun i => ∃ n : Nat, i = n ∧ n ≤ a.length ∧ a.take n = b.take n, fun i => (a.length - i).toNat, ⟨0, rfl, by omega, rfl⟩, ?_⟩
    rintro _ ⟨n, rfl, hn, he⟩
    refine ⟨fun hl => ?_, fun hl => ?_⟩
    · (simp only [decide_eq_true_eq, decide_eq_false_iff_not, Bool.not_eq_true', Bool.not_eq_false'] at hl)
      have hn' : n < a.length := by omega
      refine ⟨⟨by omega⟩, ⟨by omega⟩, fun hd => ?_, fun hd => ⟨⟨by omega⟩, ⟨n + 1, rfl, by omega, ?_⟩, ⟨by ((try dsimp only); omega)⟩⟩⟩
      · rw [op_eq] at hd
        (simp only [decide_eq_true_eq, decide_eq_false_iff_not, Bool.not_eq_true', Bool.not_eq_false'] at hd)
        refine ⟨tvB ?_, rfl⟩
        symm
        simp only [decide_eq_false_iff_not]
        intro e; subst e; exact hd rfl
      · rw [op_eq] at hd
        (simp only [decide_eq_true_eq, decide_eq_false_iff_not, Bool.not_eq_true', Bool.not_eq_false'] at hd)
        simp only [Int.toNat_natCast] at hd
        rw [take_snoc ((0 : Int), (0 : Int), ()) hn', take_snoc ((0 : Int), (0 : Int), ()) (hlen ▸ hn'), he, hd]
    · (simp only [decide_eq_true_eq, decide_eq_false_iff_not, Bool.not_eq_true', Bool.not_eq_false'] at hl)
      have : n = a.length := by omega
      subst this
      rw [List.take_length] at he
      refine ⟨tvB ?_, rfl⟩
      symm
      simp only [decide_eq_true_eq]
      rw [he, hlen, List.take_length]
end Go.Am.R
