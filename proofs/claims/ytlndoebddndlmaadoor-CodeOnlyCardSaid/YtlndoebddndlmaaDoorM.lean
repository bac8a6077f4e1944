/-
  A part of the proof of a law: see the text that states it.
-/
import Derived.Test.YtlndoebddndlmaaDoorJ
set_option linter.all false
namespace Go.Am.R
open Go
set_option maxRecDepth 100000
/-! Programs and what they are of. -/
theorem same_ev : ∀ x : XT, Small bigN x → E 18 [.tv [] .expr x, .tv [] .expr x] [] (.tv [] .bool true) [] := by
  refine XT.ind' fun x ih hs => ?_
  have ih' : ∀ y ∈ x.kids, E 18 [.tv [] .expr y, .tv [] .expr y] [] (.tv [] .bool true) [] := fun y hy => ih y hy (hs.kid y hy)
  have hlen : x.kids.length ≤ 4294967296 := hs.len
  clear ih hs
  refine ev_of (vc18 x x _ ?_)
  refine ⟨fun h => by simp at h, fun _ => ⟨fun h => by simp at h, fun _ => ⟨fun h => by simp at h, fun _ => ?_⟩⟩⟩
  refine ⟨fun i => ∃ m : Nat, i = m ∧ m ≤ x.kids.length, fun i => (x.kids.length - i).toNat, ⟨0, rfl, by omega⟩, ?_⟩
  rintro _ ⟨m, rfl, hm⟩
  refine ⟨fun h => ?_, fun h => ⟨rfl, rfl⟩⟩
  (simp only [decide_eq_true_eq, decide_eq_false_iff_not, Bool.not_eq_true', Bool.not_eq_false'] at h)
  exact ⟨⟨by omega⟩, ⟨by omega⟩, _, ⟨ih' _ (getD_mem' _ (by omega))⟩, fun h => by simp at h, fun _ => ⟨⟨by omega⟩, ⟨rfl, rfl⟩, ⟨m + 1, rfl, by omega⟩, ⟨by ((try dsimp only); omega)⟩⟩⟩
theorem sure_kids {x : XT} (h : sure x = true) : (1 ≤ x.kind ∧ x.kind ≤ 9) ∧ (x.kids.length : Int) = manyK x.kind ∧ 0 ≤ x.num ∧ x.num ≤ 999999999999999999 ∧ (x.kind < 4 ∨ x.num = 0) ∧ ∀ y ∈ x.kids, sure y = true := by
  rw [sure_eq] at h
  simp only [Bool.and_eq_true, Bool.or_eq_true, decide_eq_true_eq, List.all_eq_true] at h
  obtain ⟨⟨⟨⟨⟨⟨h1, h2⟩, h3⟩, h4⟩, h5⟩, h6⟩, h7⟩ := h
  exact ⟨⟨h1, h2⟩, h3, h4, h5, h6, h7⟩
theorem sure_of {x : XT} (h : (1 ≤ x.kind ∧ x.kind ≤ 9) ∧ (x.kids.length : Int) = manyK x.kind ∧ 0 ≤ x.num ∧ x.num ≤ 999999999999999999 ∧ (x.kind < 4 ∨ x.num = 0) ∧ ∀ y ∈ x.kids, sure y = true) : sure x = true := by
  rw [sure_eq]
  simp only [Bool.and_eq_true, Bool.or_eq_true, decide_eq_true_eq, List.all_eq_true]
  obtain ⟨⟨h1, h2⟩, h3, h4, h5, h6, h7⟩ := h
  exact ⟨⟨⟨⟨⟨⟨h1, h2⟩, h3⟩, h4⟩, h5⟩, h6⟩, h7⟩
theorem takes_many {k : Int} (h : 1 ≤ k ∧ k ≤ 9) : takesK k = manyK k := by unfold takesK manyK; (repeat' split) <;> omega
theorem size_ev : ∀ x : XT, sure x = true → sizeN x ≤ 1000 → E 19 [.tv [] .expr x] [] (.tv [] (.int .i64) (sizeN x)) [] := by
  refine XT.ind' fun x ih hs hz => ?_
  obtain ⟨⟨hk1, hk2⟩, _, _, _, _, hks⟩ := sure_kids hs
  have hx : sizeN x = 1 + sizeNL x.kids := sizeN_eq x
  have ih' : ∀ y ∈ x.kids, E 19 [.tv [] .expr y] [] (.tv [] (.int .i64) (sizeN y)) [] := fun y hy => ih y hy (hks y hy) (by have := sizeNL_mem hy; omega)
  have hlen := sizeNL_len x.kids
  clear ih
  refine ev_of (vc19 x _ ?_)
  refine ⟨fun h => by (simp only [decide_eq_true_eq, decide_eq_false_iff_not, Bool.not_eq_true', Bool.not_eq_false'] at h); omega, fun _ => ?_⟩
  refine ⟨fun n i => ∃ m : Nat, i = m ∧ m ≤ x.kids.length ∧ n = (1 + sizeNL (x.kids.take m) : Nat), fun n i => (x.kids.length - i).toNat, ⟨0, rfl, by omega, rfl⟩, ?_⟩
  rintro _ _ ⟨m, rfl, hm, rfl⟩
  refine ⟨fun h => ?_, fun h => ?_⟩
  · (simp only [decide_eq_true_eq, decide_eq_false_iff_not, Bool.not_eq_true', Bool.not_eq_false'] at h)
    have hm' : m < x.kids.length := by omega
    have hts := take_snocI (XT.mk 0 0 []) hm'
    have hmem := getD_memI (XT.mk 0 0 []) hm'
    have hsz := sizeNL_mem hmem
    have hst := sizeNL_take x.kids m
    generalize x.kids.getD (Int.toNat (m : Int)) (XT.mk 0 0 []) = y at hts hmem hsz ⊢
    refine ⟨⟨by omega⟩, _, ⟨ih' y hmem⟩, ⟨by omega⟩, ⟨by omega⟩, ⟨rfl⟩, ⟨m + 1, rfl, by omega, ?_⟩, ⟨by ((try dsimp only); omega)⟩⟩
    rw [hts, sizeNL_append]
    simp only [sizeNL]
    omega
  · (simp only [decide_eq_true_eq, decide_eq_false_iff_not, Bool.not_eq_true', Bool.not_eq_false'] at h)
    have : m = x.kids.length := by omega
    subst this
    rw [List.take_length, ← hx]
    exact ⟨rfl, rfl⟩
mutual
def most : XT → Int
  | .mk k n l => mostL (if k = 2 ∨ k = 3 then max 0 n else 0) l
def mostL : Int → List XT → Int
  | a, [] => a
  | a, x :: l => mostL (max a (most x)) l
end
theorem most_eq (x : XT) : most x = mostL (if x.kind = 2 ∨ x.kind = 3 then max 0 x.num else 0) x.kids := by cases x; rfl
theorem mostL_snoc : ∀ (l : List XT) (a : Int) (x : XT), mostL a (l ++ [x]) = max (mostL a l) (most x)
  | [], _, _ => rfl
  | y :: l, a, x => by simp only [List.cons_append, mostL]; exact mostL_snoc l _ x
theorem most_ev : ∀ x : XT, Small bigN x → E 17 [.tv [] .expr x] [] (.tv [] (.int .i64) (most x)) [] := by
  refine XT.ind' fun x ih hs => ?_
  have ih' : ∀ y ∈ x.kids, E 17 [.tv [] .expr y] [] (.tv [] (.int .i64) (most y)) [] := fun y hy => ih y hy (hs.kid y hy)
  have hlen : x.kids.length ≤ 4294967296 := hs.len
  clear ih hs
  refine ev_of (vc17 x _ ?_)
  have body : ∀ (a : Int) (Q : Int → Prop), a = (if x.kind = 2 ∨ x.kind = 3 then max 0 x.num else 0) → (∀ m : Nat, m < x.kids.length → max (mostL a (x.kids.take m)) (most (x.kids.getD (Int.toNat (m : Int)) (XT.mk 0 0 []))) = mostL a (x.kids.take (m + 1))) ∧ mostL a x.kids = most x := fun a Q ha => by
    refine ⟨fun m hm => ?_, by rw [most_eq, ha]⟩
    rw [take_snocI (XT.mk 0 0 []) hm, mostL_snoc]
  refine ⟨fun h => ?_, fun h => ⟨fun h2 => ?_, fun h2 => ?_⟩⟩
  · (simp only [decide_eq_true_eq, decide_eq_false_iff_not, Bool.not_eq_true', Bool.not_eq_false'] at h)
    obtain ⟨b1, b2⟩ := body (max 0 x.num) (fun _ => True) (by rw [if_pos (.inl h)])
    refine ⟨fun n i => ∃ m : Nat, i = m ∧ m ≤ x.kids.length ∧ n = mostL (max 0 x.num) (x.kids.take m), fun n i => (x.kids.length - i).toNat, ⟨0, rfl, by omega, rfl⟩, ?_⟩
    rintro _ _ ⟨m, rfl, hm, rfl⟩
    refine ⟨fun h => ?_, fun h => ?_⟩
    · (simp only [decide_eq_true_eq, decide_eq_false_iff_not, Bool.not_eq_true', Bool.not_eq_false'] at h)
      exact ⟨⟨by omega⟩, _, ⟨ih' _ (getD_memI _ (by omega))⟩, ⟨by omega⟩, ⟨rfl⟩, ⟨m + 1, rfl, by omega, b1 m (by omega)⟩, ⟨by ((try dsimp only); omega)⟩⟩
    · (simp only [decide_eq_true_eq, decide_eq_false_iff_not, Bool.not_eq_true', Bool.not_eq_false'] at h)
      have : m = x.kids.length := by omega
      subst this
      rw [List.take_length, b2]
      exact ⟨rfl, rfl⟩
  · (simp only [decide_eq_true_eq, decide_eq_false_iff_not, Bool.not_eq_true', Bool.not_eq_false'] at h2)
    obtain ⟨b1, b2⟩ := body (max 0 x.num) (fun _ => True) (by rw [if_pos (.inr h2)])
    refine ⟨fun n i => ∃ m : Nat, i = m ∧ m ≤ x.kids.length ∧ n = mostL (max 0 x.num) (x.kids.take m), fun n i => (x.kids.length - i).toNat, ⟨0, rfl, by omega, rfl⟩, ?_⟩
    rintro _ _ ⟨m, rfl, hm, rfl⟩
    refine ⟨fun h => ?_, fun h => ?_⟩
    · (simp only [decide_eq_true_eq, decide_eq_false_iff_not, Bool.not_eq_true', Bool.not_eq_false'] at h)
      exact ⟨⟨by omega⟩, _, ⟨ih' _ (getD_memI _ (by omega))⟩, ⟨by omega⟩, ⟨rfl⟩, ⟨m + 1, rfl, by omega, b1 m (by omega)⟩, ⟨by ((try dsimp only); omega)⟩⟩
    · (simp only [decide_eq_true_eq, decide_eq_false_iff_not, Bool.not_eq_true', Bool.not_eq_false'] at h)
      have : m = x.kids.length := by omega
      subst this
      rw [List.take_length, b2]
      exact ⟨rfl, rfl⟩
  · (simp only [decide_eq_true_eq, decide_eq_false_iff_not, Bool.not_eq_true', Bool.not_eq_false'] at h)
    (simp only [decide_eq_true_eq, decide_eq_false_iff_not, Bool.not_eq_true', Bool.not_eq_false'] at h2)
    obtain ⟨b1, b2⟩ := body 0 (fun _ => True) (by rw [if_neg (by omega)])
    refine ⟨fun n i => ∃ m : Nat, i = m ∧ m ≤ x.kids.length ∧ n = mostL 0 (x.kids.take m), fun n i => (x.kids.length - i).toNat, ⟨0, rfl, by omega, rfl⟩, ?_⟩
    rintro _ _ ⟨m, rfl, hm, rfl⟩
    refine ⟨fun h => ?_, fun h => ?_⟩
    · (simp only [decide_eq_true_eq, decide_eq_false_iff_not, Bool.not_eq_true', Bool.not_eq_false'] at h)
      exact ⟨⟨by omega⟩, _, ⟨ih' _ (getD_memI _ (by omega))⟩, ⟨by omega⟩, ⟨rfl⟩, ⟨m + 1, rfl, by omega, b1 m (by omega)⟩, ⟨by ((try dsimp only); omega)⟩⟩
    · (simp only [decide_eq_true_eq, decide_eq_false_iff_not, Bool.not_eq_true', Bool.not_eq_false'] at h)
      have : m = x.kids.length := by omega
      subst this
      rw [List.take_length, b2]
      exact ⟨rfl, rfl⟩

mutual
def flat : XT → List Op2
  | .mk k n l => flatL l ++ [(k, n, ())]
def flatL : List XT → List Op2
  | [] => []
  | x :: l => flat x ++ flatL l
end
theorem flat_eq (x : XT) : flat x = flatL x.kids ++ [(x.kind, x.num, ())] := by cases x; rfl
theorem flatL_append : ∀ l m : List XT, flatL (l ++ m) = flatL l ++ flatL m
  | [], _ => rfl
  | x :: l, m => by simp only [List.cons_append, flatL, flatL_append l m, List.append_assoc]
theorem flat_len : ∀ x : XT, (flat x).length = sizeN x := by
  refine XT.ind' fun x ih => ?_
  have : ∀ l : List XT, (∀ y ∈ l, (flat y).length = sizeN y) → (flatL l).length = sizeNL l := by
    intro l
    induction l with
    | nil => intro _; rfl
    | cons y l ihl => intro h; simp only [flatL, List.length_append, sizeNL]; rw [h y (by simp), ihl fun z hz => h z (by simp [hz])]
  rw [flat_eq, sizeN_eq, List.length_append, this _ ih, List.length_singleton, Nat.add_comm]
theorem sure_right {x : XT} (h : sure x = true) : right x = true := by simp [right, h]
theorem comp_flat : ∀ x : XT, sure x = true → comp x = flat x := by
  refine XT.ind' fun x ih hs => ?_
  obtain ⟨⟨hk1, hk2⟩, _, _, _, _, hks⟩ := sure_kids hs
  have : ∀ l : List XT, (∀ y ∈ l, comp y = flat y) → compL l = flatL l := by
    intro l
    induction l with
    | nil => intro _; rfl
    | cons y l ihl => intro h; simp only [flatL, compL]; rw [h y (by simp), ihl fun z hz => h z (by simp [hz])]
  rw [comp_eq, if_neg (by rw [sure_right hs]; simp; omega), flat_eq, this _ fun y hy => ih y hy (hks y hy)]
theorem flat_ops : ∀ x : XT, sure x = true → ∀ o ∈ flat x, (1 ≤ o.1 ∧ o.1 ≤ 9) ∧ 0 ≤ o.2.1 ∧ o.2.1 ≤ 999999999999999999 ∧ (o.1 < 4 ∨ o.2.1 = 0) := by
  refine XT.ind' fun x ih hs o ho => ?_
  obtain ⟨hk, _, h3, h4, h5, hks⟩ := sure_kids hs
  have : ∀ l : List XT, (∀ y ∈ l, ∀ o ∈ flat y, (1 ≤ o.1 ∧ o.1 ≤ 9) ∧ 0 ≤ o.2.1 ∧ o.2.1 ≤ 999999999999999999 ∧ (o.1 < 4 ∨ o.2.1 = 0)) → ∀ o ∈ flatL l, (1 ≤ o.1 ∧ o.1 ≤ 9) ∧ 0 ≤ o.2.1 ∧ o.2.1 ≤ 999999999999999999 ∧ (o.1 < 4 ∨ o.2.1 = 0) := by
    intro l
    induction l with
    | nil => intro _ o ho; cases ho
    | cons y l ihl =>
      intro h o ho
      simp only [flatL, List.mem_append] at ho
      rcases ho with ho | ho
      · exact h y (by simp) o ho
      · exact ihl (fun z hz => h z (by simp [hz])) o ho
  rw [flat_eq, List.mem_append] at ho
  rcases ho with ho | ho
  · exact this _ (fun y hy => ih y hy (hks y hy)) o ho
  · simp only [List.mem_singleton] at ho
    subst ho
    exact ⟨hk, h3, h4, h5⟩
theorem most_le : ∀ x : XT, ∀ B : Int, 0 ≤ B → (most x ≤ B ↔ ∀ o ∈ flat x, (o.1 = 2 ∨ o.1 = 3) → o.2.1 ≤ B) := by
  refine XT.ind' fun x ih B hB => ?_
  have key : ∀ (l : List XT), (∀ y ∈ l, ∀ B : Int, 0 ≤ B → (most y ≤ B ↔ ∀ o ∈ flat y, (o.1 = 2 ∨ o.1 = 3) → o.2.1 ≤ B)) → ∀ a, (mostL a l ≤ B ↔ a ≤ B ∧ ∀ o ∈ flatL l, (o.1 = 2 ∨ o.1 = 3) → o.2.1 ≤ B) := by
    intro l
    induction l with
    | nil => intro _ a; simp [mostL, flatL]
    | cons y l ihl =>
      intro h a
      have h1 := h y (by simp) B hB
      have h2 := ihl (fun z hz => h z (by simp [hz])) (max a (most y))
      simp only [mostL, flatL, List.mem_append]
      rw [h2]
      constructor
      · rintro ⟨g1, g2⟩
        refine ⟨by omega, fun o ho hk => ?_⟩
        rcases ho with ho | ho
        · exact h1.1 (by omega) o ho hk
        · exact g2 o ho hk
      · rintro ⟨g1, g2⟩
        have := h1.2 fun o ho hk => g2 o (.inl ho) hk
        exact ⟨by omega, fun o ho hk => g2 o (.inr ho) hk⟩
  rw [most_eq, key _ ih, flat_eq]
  simp only [List.mem_append, List.mem_singleton]
  constructor
  · rintro ⟨g1, g2⟩ o ho hk
    rcases ho with ho | rfl
    · exact g2 o ho hk
    · simp only at hk ⊢
      rw [if_pos hk] at g1
      omega
  · intro g
    refine ⟨?_, fun o ho hk => g o (.inl ho) hk⟩
    split
    · rename_i hk
      have := g _ (.inr rfl) hk
      simp only at this
      omega
    · exact hB
end Go.Am.R
