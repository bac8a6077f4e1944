/-
  A part of the proof of a law: see the text that states it.
-/
import Derived.Test.YtlndoebddndlmaaDoorM
set_option linter.all false
namespace Go.Am.R
open Go
set_option maxRecDepth 100000
theorem checkGo_fit (a : Int) : ∀ x : XT, sure x = true → (∀ o ∈ flat x, fitsK o.1 o.2.1 a = true) → ∀ (rest : List Op2) (n : Int) (i : Nat), 0 ≤ n → checkGo a (flat x ++ rest) n i = checkGo a rest (n + 1) (i + (flat x).length) := by
  refine XT.ind' fun x ih hs hf rest n i hn => ?_
  obtain ⟨hk, h2, h3, h4, h5, hks⟩ := sure_kids hs
  have key : ∀ (l : List XT), (∀ y ∈ l, (∀ o ∈ flat y, fitsK o.1 o.2.1 a = true) → ∀ (rest : List Op2) (n : Int) (i : Nat), 0 ≤ n → checkGo a (flat y ++ rest) n i = checkGo a rest (n + 1) (i + (flat y).length)) → (∀ o ∈ flatL l, fitsK o.1 o.2.1 a = true) →
      ∀ (rest : List Op2) (n : Int) (i : Nat), 0 ≤ n → checkGo a (flatL l ++ rest) n i = checkGo a rest (n + l.length) (i + (flatL l).length) := by
    intro l
    induction l with
    | nil => intro _ _ rest n i _; simp [flatL]
    | cons y l ihl =>
      intro h hf rest n i hn
      simp only [flatL, List.append_assoc]
      rw [h y (by simp) (fun o ho => hf o (by simp [flatL, ho])) _ n i hn, ihl (fun z hz => h z (by simp [hz])) (fun o ho => hf o (by simp [flatL, ho])) rest (n + 1) _ (by omega)]
      congr 1
      · simp only [List.length_cons]; omega
      · simp only [List.length_append]; omega
  rw [flat_eq] at hf ⊢
  rw [List.append_assoc, key _ (fun y hy => ih y hy (hks y hy)) (fun o ho => hf o (by simp [ho])) _ n i hn]
  have ho := hf (x.kind, x.num, ()) (by simp)
  have ht := takes_many hk
  simp only [List.cons_append, List.nil_append, checkGo]
  rw [if_neg (by rw [ho, ht, ← h2]; simp; omega), ht, ← h2]
  congr 1
  · omega
  · rw [List.length_append, List.length_singleton]; omega
theorem checkGo_unfit (a : Int) : ∀ (l : List Op2) (n : Int) (i : Nat), (∃ o ∈ l, fitsK o.1 o.2.1 a = false) → (checkGo a l n i).2 = 31
  | [], _, _, h => by obtain ⟨o, ho, _⟩ := h; cases ho
  | x :: l, n, i, h => by
    simp only [checkGo]
    split
    · rfl
    · rename_i hc
      obtain ⟨o, ho, hf⟩ := h
      rcases List.mem_cons.1 ho with rfl | ho
      · exact absurd (.inl hf) hc
      · exact checkGo_unfit a l _ _ ⟨o, ho, hf⟩
theorem exprGo_flat : ∀ x : XT, sure x = true → ∀ (rest : List Op2) (st : List XT), exprGo (flat x ++ rest) st = exprGo rest (st ++ [x]) := by
  refine XT.ind' fun x ih hs rest st => ?_
  obtain ⟨hk, h2, h3, h4, h5, hks⟩ := sure_kids hs
  have key : ∀ (l : List XT), (∀ y ∈ l, ∀ (rest : List Op2) (st : List XT), exprGo (flat y ++ rest) st = exprGo rest (st ++ [y])) → ∀ (rest : List Op2) (st : List XT), exprGo (flatL l ++ rest) st = exprGo rest (st ++ l) := by
    intro l
    induction l with
    | nil => intro _ rest st; simp [flatL]
    | cons y l ihl =>
      intro h rest st
      simp only [flatL, List.append_assoc]
      rw [h y (by simp), ihl (fun z hz => h z (by simp [hz]))]
      simp
  rw [flat_eq, List.append_assoc, key _ fun y hy => ih y hy (hks y hy)]
  have ht := takes_many hk
  have hl : (st ++ x.kids).length - (takesK x.kind).toNat = st.length := by rw [List.length_append, ht, ← h2]; omega
  simp only [List.cons_append, List.nil_append, exprGo]
  rw [if_neg (by rw [(isK_iff _).2 hk, ht, ← h2]; simp; omega), hl, List.take_left, List.drop_left]
  cases x; rfl
theorem depthGo_le : ∀ (l : List Op2) (n mo : Int), 0 ≤ n → depthGo l n mo ≤ max mo (n + l.length)
  | [], n, mo, _ => by simp only [depthGo]; omega
  | x :: l, n, mo, hn => by
    simp only [depthGo]
    split
    · omega
    · rename_i hc
      have hk : isK x.1 = true := by
        cases h : isK x.1 with
        | true => rfl
        | false => exact absurd (.inl h) hc
      have h1 : ¬ n < takesK x.1 := fun h => hc (.inr h)
      have h2 := takesK_nn ((isK_iff _).1 hk)
      have := depthGo_le l (n + (1 - takesK x.1)) (max mo (n + (1 - takesK x.1))) (by omega)
      simp only [List.length_cons]
      omega
def zeroOp (o : Op2) : Bool := (decide (o.1 = 2) || decide (o.1 = 3)) && decide (o.2.1 = 0)
theorem fit_sure {o : Op2} {a : Int} (h : (1 ≤ o.1 ∧ o.1 ≤ 9) ∧ 0 ≤ o.2.1 ∧ o.2.1 ≤ 999999999999999999 ∧ (o.1 < 4 ∨ o.2.1 = 0)) : fitsK o.1 o.2.1 a = true ↔ ((o.1 = 2 ∨ o.1 = 3) → 0 < o.2.1 ∧ o.2.1 ≤ a) := by
  rw [fits_iff]
  constructor
  · exact fun g => g.2.2.2.2
  · exact fun g => ⟨h.1, h.2.1, h.2.2.1, by omega, g⟩
/-- What is compiled passes just if its kids are there. -/
theorem check_back {x : XT} (hs : sure x = true) (a : Int) : decide ((check (flat x) a).2 = 0) = (!(flat x).any zeroOp && decide (most x ≤ max a 0)) := by
  have hops := flat_ops x hs
  have hmost := most_le x (max a 0) (by omega)
  rw [Bool.eq_iff_iff]
  simp only [decide_eq_true_eq, Bool.and_eq_true, Bool.not_eq_true', List.any_eq_false]
  rw [hmost]
  have hz : ∀ o : Op2, (¬ zeroOp o = true) ↔ ((o.1 = 2 ∨ o.1 = 3) → o.2.1 ≠ 0) := fun o => by simp [zeroOp]
  by_cases hall : ∀ o ∈ flat x, fitsK o.1 o.2.1 a = true
  · have h1 := checkGo_fit a x hs hall [] 0 0 (by omega)
    rw [List.append_nil] at h1
    have h2 : check (flat x) a = (0, 0) := by
      unfold check
      rw [h1]
      simp [checkGo]
    rw [h2]
    refine ⟨fun _ => ⟨fun o ho => (hz o).2 fun hk => ?_, fun o ho hk => ?_⟩, fun _ => rfl⟩
    · have := (fit_sure (hops o ho)).1 (hall o ho) hk; omega
    · have := (fit_sure (hops o ho)).1 (hall o ho) hk; omega
  · have hex : ∃ o ∈ flat x, fitsK o.1 o.2.1 a = false := by
      refine Classical.byContradiction fun hn => hall fun o ho => ?_
      cases hf : fitsK o.1 o.2.1 a with
      | true => rfl
      | false => exact absurd ⟨o, ho, hf⟩ hn
    have h1 : (check (flat x) a).2 = 31 := checkGo_unfit a _ 0 0 hex
    rw [h1]
    refine ⟨fun h => (by cases h), fun ⟨g1, g2⟩ => ?_⟩
    obtain ⟨o, ho, hf⟩ := hex
    have hfs := fit_sure (a := a) (hops o ho)
    have : fitsK o.1 o.2.1 a = true := hfs.2 fun hk => by
      have := (hz o).1 (g1 o ho) hk
      have := g2 o ho hk
      have := (hops o ho).2.1
      omega
    rw [hf] at this
    cases this
theorem expr_back {x : XT} (hs : sure x = true) : exprR (flat x) = (x, true) := by
  have h := exprGo_flat x hs [] []
  rw [List.append_nil] at h
  unfold exprR
  rw [if_neg (by rw [flat_len]; have := sizeN_pos x; omega), h]
  simp [exprGo, sure_right hs]
theorem right_cases {x : XT} (h : right x = true) : x = X0 ∨ sure x = true := by
  unfold right at h
  rw [Bool.or_eq_true] at h
  rcases h with h | h
  · left
    simp only [Bool.and_eq_true, decide_eq_true_eq] at h
    obtain ⟨k, n, l⟩ := x
    obtain ⟨⟨h1, h2⟩, h3⟩ := h
    simp only [XT.kind, XT.num, XT.kids] at h1 h2 h3
    rw [h1, h2, h3]
  · exact .inr h
theorem size0_ev : E 19 [.tv [] .expr X0] [] (.tv [] (.int .i64) 0) [] := ev_of (vc19 X0 _ ⟨fun _ => ⟨rfl, rfl⟩, fun h => by simp [XT.kind] at h⟩)
theorem back_facts {x : XT} (h : right x = true) (hz : sizeN x ≤ 60) (a : Int) : ∃ n : Nat, E 19 [.tv [] .expr x] [] (.tv [] (.int .i64) n) [] ∧ (comp x).length = n ∧ exprR (comp x) = (x, true) ∧ decide ((check (comp x) a).2 = 0) = (!(comp x).any zeroOp && decide (most x ≤ max a 0)) := by
  rcases right_cases h with rfl | hs
  · refine ⟨0, size0_ev, rfl, rfl, ?_⟩
    have : comp X0 = [] := rfl
    rw [this]
    have h1 : check [] a = (0, 0) := rfl
    have h2 : most X0 = 0 := rfl
    rw [h1, h2]
    have : (0 : Int) ≤ max a 0 := by omega
    simp [this]
  · have hc := comp_flat x hs
    rw [hc]
    exact ⟨sizeN x, size_ev x hs (by omega), flat_len x, expr_back hs, check_back hs a⟩
theorem backs (x : XT) (a : Int) : E 5 [.tv [] .expr x, .tv [] (.int .i64) a] [] (.tv [] .bool true) [] := by
  refine ev_of (vc5 x a _ ?_)
  refine ⟨_, ⟨awake_ev⟩, _, ⟨few_ev x 60 30 (by omega) (by omega) (by omega) (by omega)⟩, fun _ => ⟨rfl, rfl⟩, fun h => ?_⟩
  (simp only [decide_eq_true_eq, decide_eq_false_iff_not, Bool.not_eq_true', Bool.not_eq_false'] at h)
  have hfs := few_size x 60 30 (by omega)
  have hz : sizeN x ≤ 60 := by omega
  have hsm := size_small (x := x) (by omega)
  refine ⟨_, ⟨rright_ev x hsm⟩, fun _ => ⟨rfl, rfl⟩, fun hr => ?_⟩
  (simp only [decide_eq_true_eq, decide_eq_false_iff_not, Bool.not_eq_true', Bool.not_eq_false'] at hr)
  obtain ⟨n, b1, b2, b3, b4⟩ := back_facts hr hz a
  have hcl := comp_len x
  refine ⟨_, ⟨comp_ev x (by omega)⟩, _, _, ⟨check_ev _ a (by omega)⟩, ?_⟩
  have hdep : depth (comp x) ≤ ((comp x).length : Int) := by
    have := depthGo_le (comp x) 0 0 (by omega)
    unfold depth; omega
  have hex := expr_ev (comp x) (by omega)
  rw [b3] at hex
  have hde := depth_ev (comp x) (by omega)
  generalize comp x = l at b2 b4 hcl hdep hex hde ⊢
  refine ⟨fun z i => ∃ m : Nat, i = m ∧ m ≤ l.length ∧ z = (l.take m).any zeroOp, fun z i => (l.length - i).toNat, ⟨0, rfl, by omega, by simp⟩, ?_⟩
  rintro z _ ⟨m, rfl, hm, hzz⟩
  refine ⟨fun h => ?_, fun h => ?_⟩
  · (simp only [decide_eq_true_eq, decide_eq_false_iff_not, Bool.not_eq_true', Bool.not_eq_false'] at h)
    have hm' : m < l.length := by omega
    have hs := take_snocI ((0 : Int), (0 : Int), ()) hm'
    generalize l.getD (Int.toNat (m : Int)) ((0 : Int), (0 : Int), ()) = o at hs ⊢
    have hany : (l.take (m + 1)).any zeroOp = (z || zeroOp o) := by rw [hs, List.any_append, hzz]; simp
    have next : ∀ {z' : Bool}, z' = (z || zeroOp o) → ∃ m' : Nat, (m : Int) + 1 = m' ∧ m' ≤ l.length ∧ z' = (l.take m').any zeroOp := fun h => ⟨m + 1, rfl, by omega, by rw [hany, h]⟩
    clear hzz hs hany hex hde b1 b3 b4
    refine ⟨fun hz1 => ?_, fun hz1 => ?_⟩
    · subst hz1
      exact ⟨⟨by omega⟩, ⟨rfl⟩, next (by simp), ⟨by ((try dsimp only); omega)⟩⟩
    · subst hz1
      refine ⟨⟨by omega⟩, fun h1 => ?_, fun h1 => ⟨⟨by omega⟩, fun h2 => ?_, fun h2 => ?_⟩⟩
      · (simp only [decide_eq_true_eq, decide_eq_false_iff_not, Bool.not_eq_true', Bool.not_eq_false'] at h1)
        exact ⟨⟨by omega⟩, ⟨by omega⟩, ⟨rfl⟩, next (by simp [zeroOp, h1]), ⟨by ((try dsimp only); omega)⟩⟩
      · (simp only [decide_eq_true_eq, decide_eq_false_iff_not, Bool.not_eq_true', Bool.not_eq_false'] at h2)
        exact ⟨⟨by omega⟩, ⟨by omega⟩, ⟨rfl⟩, next (by simp [zeroOp, h2]), ⟨by ((try dsimp only); omega)⟩⟩
      · (simp only [decide_eq_true_eq, decide_eq_false_iff_not, Bool.not_eq_true', Bool.not_eq_false'] at h1)
        (simp only [decide_eq_true_eq, decide_eq_false_iff_not, Bool.not_eq_true', Bool.not_eq_false'] at h2)
        exact ⟨⟨by omega⟩, ⟨rfl⟩, next (by simp [zeroOp, h1, h2]), ⟨by ((try dsimp only); omega)⟩⟩
  · (simp only [decide_eq_true_eq, decide_eq_false_iff_not, Bool.not_eq_true', Bool.not_eq_false'] at h)
    have : m = l.length := by omega
    subst this
    rw [List.take_length] at hzz
    rw [← hzz] at b4
    refine ⟨_, _, ⟨hex⟩, fun h1 => ?_, fun h1 => ?_⟩
    · (simp only [decide_eq_true_eq, decide_eq_false_iff_not, Bool.not_eq_true', Bool.not_eq_false'] at h1)
      subst h1
      simp only [Bool.not_false, Bool.true_and] at b4
      refine ⟨_, ⟨most_ev x hsm⟩, fun _ => ⟨fun _ => ⟨fun _ => ⟨_, ⟨same_ev x hsm⟩, fun _ => ⟨_, ⟨b1⟩, fun _ => ⟨_, ⟨hde⟩, tvB (by simpa using hdep), rfl⟩, fun h => by rw [b2] at h; simp at h⟩, fun h => by cases h⟩, fun h => by cases h⟩, fun h => by rw [b4] at h; simp at h⟩, fun h => by cases h⟩
    · (simp only [decide_eq_true_eq, decide_eq_false_iff_not, Bool.not_eq_true', Bool.not_eq_false'] at h1)
      subst h1
      simp only [Bool.not_true, Bool.false_and] at b4
      refine ⟨fun _ => ⟨fun _ => ⟨fun _ => ⟨_, ⟨same_ev x hsm⟩, fun _ => ⟨_, ⟨b1⟩, fun _ => ⟨_, ⟨hde⟩, tvB (by simpa using hdep), rfl⟩, fun h => by rw [b2] at h; simp at h⟩, fun h => by cases h⟩, fun h => by cases h⟩, fun h => by rw [b4] at h; simp at h⟩, fun h => by cases h⟩

/-! Only expressions' programs pass. -/
theorem exprGo_flatL : ∀ (l : List Op2) (st st' : List XT), exprGo l st = some st' → flatL st' = flatL st ++ l
  | [], st, st', h => by simp only [exprGo, Option.some.injEq] at h; subst h; simp
  | x :: l, st, st', h => by
    simp only [exprGo] at h
    split at h
    · cases h
    · have := exprGo_flatL l _ _ h
      rw [this, flatL_append]
      have e := flatL_append (st.take (st.length - (takesK x.1).toNat)) (st.drop (st.length - (takesK x.1).toNat))
      rw [List.take_append_drop] at e
      rw [e]
      obtain ⟨k, n, ⟨⟩⟩ := x
      simp [flatL, flat]
theorem exprGo_check (a : Int) : ∀ (l : List Op2) (st : List XT) (i : Nat), (i ≠ 0 ∨ l ≠ []) → checkGo a l st.length i = (0, 0) → (∀ y ∈ st, sure y = true) → ∃ st', exprGo l st = some st' ∧ st'.length = 1 ∧ ∀ y ∈ st', sure y = true
  | [], st, i, hi, h, hs => by
    simp only [checkGo] at h
    split at h
    · rename_i hc
      have hi' : i ≠ 0 := by
        rcases hi with h | h
        · exact h
        · exact absurd rfl h
      exact ⟨st, rfl, by omega, hs⟩
    · simp at h
  | x :: l, st, i, _, h, hs => by
    simp only [checkGo] at h
    split at h
    · simp at h
    · rename_i hc
      have hf : fitsK x.1 x.2.1 a = true := by
        cases hf : fitsK x.1 x.2.1 a with
        | true => rfl
        | false => exact absurd (.inl hf) hc
      have hn : ¬ (st.length : Int) < takesK x.1 := fun h => hc (.inr h)
      have hfi := (fits_iff _ _ _).1 hf
      have hk := hfi.1
      have hnn := takesK_nn hk
      have ht := takes_many hk
      have hsn : sure (XT.mk x.1 x.2.1 (st.drop (st.length - (takesK x.1).toNat))) = true := by
        refine sure_of ⟨hk, ?_, hfi.2.1, hfi.2.2.1, ?_, fun y hy => hs y (List.mem_of_mem_drop hy)⟩
        · simp only [XT.kids, XT.kind]
          rw [List.length_drop, ← ht]; omega
        · have := hfi.2.2.2.1
          simp only [XT.kind, XT.num]; omega
      have hlen : ((st.take (st.length - (takesK x.1).toNat) ++ [XT.mk x.1 x.2.1 (st.drop (st.length - (takesK x.1).toNat))]).length : Int) = st.length + (1 - takesK x.1) := by
        rw [List.length_append, List.length_take, List.length_singleton]; omega
      have ih := exprGo_check a l (st.take (st.length - (takesK x.1).toNat) ++ [XT.mk x.1 x.2.1 (st.drop (st.length - (takesK x.1).toNat))]) (i + 1) (.inl (by omega)) (by rw [hlen]; exact h) (fun y hy => by
        rw [List.mem_append, List.mem_singleton] at hy
        rcases hy with hy | rfl
        · exact hs y (List.mem_of_mem_take hy)
        · exact hsn)
      obtain ⟨st', h1, h2, h3⟩ := ih
      refine ⟨st', ?_, h2, h3⟩
      simp only [exprGo]
      rw [if_neg (by rw [(isK_iff _).2 hk]; simp; omega)]
      exact h1
theorem only_check {l : List Op2} {a : Int} (h : (check l a).2 = 0) : (exprR l).2 = true := by
  unfold exprR
  split
  · rfl
  · rename_i hl
    have hc : check l a = (0, 0) := by
      rcases checkGo_bd a l 0 0 with h' | ⟨j, _, _, h'⟩
      · exact h'
      · have : check l a = ((j : Int), 31) := h'
        rw [this] at h; cases h
    obtain ⟨st', h1, h2, h3⟩ := exprGo_check a l [] 0 (.inr fun e => hl (by rw [e]; rfl)) hc (fun y hy => by cases hy)
    rw [h1]
    match st', h2 with
    | [y], _ =>
      have : right y = true := sure_right (h3 y (by simp))
      simp [this]
theorem only_not {l : List Op2} (h : (exprR l).2 = false) : (exprR l).1 = X0 := by
  unfold exprR at h ⊢
  split at h
  · cases h
  · rename_i hl
    rw [if_neg hl]
    split at h
    · rename_i st hst
      split at h
      · cases h
      · rename_i hc
        rw [if_neg hc]
    · rfl
theorem only_is {l : List Op2} (h : (exprR l).2 = true) : right (exprR l).1 = true ∧ comp (exprR l).1 = l ∧ sizeN (exprR l).1 ≤ l.length + 1 := by
  unfold exprR at h ⊢
  by_cases hl : l.length = 0
  · rw [if_pos hl]
    have : l = [] := List.length_eq_zero_iff.1 hl
    subst this
    exact ⟨rfl, rfl, by decide⟩
  · rw [if_neg hl] at h ⊢
    cases hst : exprGo l [] with
    | none => rw [hst] at h; cases h
    | some st =>
      rw [hst] at h
      simp only at h ⊢
      split at h
      · rename_i hc
        rw [if_pos hc]
        match st, hc with
        | [y], hc =>
          have hr : right y = true := hc.2
          have hfl := exprGo_flatL l [] [y] hst
          simp only [flatL, List.append_nil, List.nil_append] at hfl
          rcases right_cases hr with rfl | hs
          · have : flat X0 = [(0, 0, ())] := rfl
            rw [this] at hfl
            subst hfl
            cases hst
          · refine ⟨hr, ?_, ?_⟩
            · show comp y = l
              rw [comp_flat y hs, hfl]
            · show sizeN y ≤ _
              rw [← flat_len, hfl]; omega
      · cases h
theorem onlys (l : List Op2) (a : Int) : E 6 [.tv [] (.slice tOp) l, .tv [] (.int .i64) a] [] (.tv [] .bool true) [] := by
  refine ev_of (vc6 l a _ ?_)
  refine ⟨_, ⟨awake_ev⟩, fun _ => ⟨rfl, rfl⟩, fun h => ?_⟩
  (simp only [decide_eq_true_eq, decide_eq_false_iff_not, Bool.not_eq_true', Bool.not_eq_false'] at h)
  refine ⟨_, _, ⟨check_ev l a (by omega)⟩, _, _, ⟨expr_ev l (by omega)⟩, ?_⟩
  have hs0 : Small bigN X0 := size_small (by decide)
  have hoc := only_check (l := l) (a := a)
  cases hi : (exprR l).2 with
  | true =>
    obtain ⟨h1, h2, h3⟩ := only_is hi
    have hsz : sizeN (exprR l).1 ≤ 1000 := by omega
    have hrr := rright_ev _ (size_small hsz)
    have hce := comp_ev _ hsz
    have hoe := ops_ev l l (by unfold bigN; omega)
    rw [h1] at hrr
    rw [h2] at hce
    refine ⟨fun _ => ⟨fun h => (by cases h), fun _ => ⟨fun h => (by cases h), fun _ => ⟨fun _ => ⟨_, ⟨hrr⟩, fun _ => ⟨_, ⟨hce⟩, _, ⟨hoe⟩, tvB (by simp), rfl⟩, fun h => by cases h⟩, fun h => by cases h⟩⟩⟩, fun _ => ⟨fun h => (by cases h), fun _ => ⟨fun _ => ⟨_, ⟨hrr⟩, fun _ => ⟨_, ⟨hce⟩, _, ⟨hoe⟩, tvB (by simp), rfl⟩, fun h => by cases h⟩, fun h => by cases h⟩⟩⟩
  | false =>
    have h0 := only_not hi
    rw [hi] at hoc
    rw [h0]
    have hse := same_ev X0 hs0
    refine ⟨fun h => ?_, fun _ => ⟨fun _ => ⟨fun _ => ⟨_, ⟨hse⟩, rfl, rfl⟩, fun h => by cases h⟩, fun h => by cases h⟩⟩
    (simp only [decide_eq_true_eq, decide_eq_false_iff_not, Bool.not_eq_true', Bool.not_eq_false'] at h)
    exact absurd (hoc h) (by simp)
end Go.Am.R
