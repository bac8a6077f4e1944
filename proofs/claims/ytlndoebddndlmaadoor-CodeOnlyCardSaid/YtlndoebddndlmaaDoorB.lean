/-
  A part of the proof of a law: see the text that states it.
-/
import Derived.Test.YtlndoebddndlmaaDoorA
set_option linter.all false
namespace Go.Am.R
open Go
set_option maxRecDepth 100000
theorem all_take {l : List XT} {n : Nat} (h : n = l.length) (ha : (l.take n).all sure = true) : l.all sure = true := by rw [h, List.take_length] at ha; exact ha
theorem rsure_ev : ∀ x : XT, Small bigN x → E 30 [.tv [] .expr x] [] (.tv [] .bool (sure x)) [] := by
  refine XT.ind' fun x ih hs => ?_
  have ih' : ∀ y ∈ x.kids, E 30 [.tv [] .expr y] [] (.tv [] .bool (sure y)) [] := fun y hy => ih y hy (hs.kid y hy)
  have hlen : x.kids.length ≤ 4294967296 := hs.len
  clear ih hs
  refine ev_of (vc30 _ _ ?_)
  (repeat' (first | (intro _) | (refine And.intro ?_ ?_) | (refine Exists.intro _ (And.intro (Need.mk (is_ev _)) ?_)) | (refine Exists.intro _ (Exists.intro _ (And.intro (Need.mk (is_ev _)) ?_))) | (refine Exists.intro _ (Exists.intro _ (Exists.intro _ (And.intro (Need.mk (is_ev _)) ?_)))) | (refine Need.mk ?_)))
  all_goals first
    | (with_reducible rfl)
    | (exfalso; clear ih'; (simp only [decide_eq_true_eq, decide_eq_false_iff_not, Bool.not_eq_true', Bool.not_eq_false', Bool.and_eq_true, Bool.or_eq_true, Bool.and_true, Bool.true_and] at *); omega)
    | ((first | refine tvI ?_ | refine tvB ?_ | refine tvS ?_ | refine tvX ?_ | refine tvE ?_); clear ih'; rw [sure_eq]; (simp only [decide_eq_true_eq, decide_eq_false_iff_not, Bool.not_eq_true', Bool.not_eq_false', Bool.and_eq_true, Bool.or_eq_true, Bool.and_true, Bool.true_and] at *); simp_all [manyK]; done)
    | ((first | refine tvI ?_ | refine tvB ?_ | refine tvS ?_ | refine tvX ?_ | refine tvE ?_); clear ih'; rw [sure_eq]; (simp only [decide_eq_true_eq, decide_eq_false_iff_not, Bool.not_eq_true', Bool.not_eq_false', Bool.and_eq_true, Bool.or_eq_true, Bool.and_true, Bool.true_and] at *); simp_all [manyK]; omega)
    | ((first | refine tvI ?_ | refine tvB ?_ | refine tvS ?_ | refine tvX ?_ | refine tvE ?_); clear ih'; rw [sure_eq]; symm; rw [Bool.eq_false_iff]; (simp only [decide_eq_true_eq, decide_eq_false_iff_not, Bool.not_eq_true', Bool.not_eq_false', Bool.and_eq_true, Bool.or_eq_true, Bool.and_true, Bool.true_and] at *); intro hh; obtain ⟨⟨⟨⟨⟨⟨h1, h2⟩, h3⟩, h4⟩, h5⟩, h6⟩, h7⟩ := hh; unfold manyK at h3; (repeat' split at h3) <;> omega)
    | ((first | refine tvI ?_ | refine tvB ?_ | refine tvS ?_ | refine tvX ?_ | refine tvE ?_); clear ih'; (simp only [decide_eq_true_eq, decide_eq_false_iff_not, Bool.not_eq_true', Bool.not_eq_false', Bool.and_eq_true, Bool.or_eq_true, Bool.and_true, Bool.true_and] at *); have hm : manyK x.kind = 0 := (by unfold manyK; rw [if_pos (by omega)]); rw [sure_eq, hm]; simp_all)
    | (refine ⟨fun i => ∃ n : Nat, i = n ∧ n ≤ x.kids.length ∧ (x.kids.take n).all sure = true, fun i => (x.kids.length - i).toNat, ⟨0, rfl, by omega, by simp⟩, ?_⟩
       rintro _ ⟨n, rfl, hn, ha⟩
       refine ⟨fun h => ?_, fun h => ?_⟩
       · (simp only [decide_eq_true_eq, decide_eq_false_iff_not, Bool.not_eq_true', Bool.not_eq_false'] at h)
         have hn' : n < x.kids.length := by clear ih'; (simp only [decide_eq_true_eq, decide_eq_false_iff_not, Bool.not_eq_true', Bool.not_eq_false', Bool.and_eq_true, Bool.or_eq_true, Bool.and_true, Bool.true_and] at *); omega
         have hts := take_snoc (XT.mk 0 0 []) hn'
         refine ⟨⟨by omega⟩, _, ⟨ih' _ (getD_mem' _ (by simpa using hn'))⟩, fun hb => ?_, fun hb => ⟨⟨by omega⟩, ⟨rfl⟩, ⟨n + 1, rfl, by omega, ?_⟩, ⟨by ((try dsimp only); omega)⟩⟩⟩
         · refine ⟨?_, rfl⟩
           (first | refine tvI ?_ | refine tvB ?_ | refine tvS ?_ | refine tvX ?_ | refine tvE ?_)
           clear ih'
           have : x.kids.all sure = false := by
             simp only [List.all_eq_false]
             exact ⟨_, getD_mem' (XT.mk 0 0 []) hn', by simpa using hb⟩
           rw [sure_eq, this]
           simp
         · simp only [Int.toNat_natCast] at hb
           rw [hts, List.all_append, ha]
           simpa using hb
       · refine ⟨?_, rfl⟩
         (first | refine tvI ?_ | refine tvB ?_ | refine tvS ?_ | refine tvX ?_ | refine tvE ?_)
         clear ih'
         have hall := all_take (by (simp only [decide_eq_true_eq, decide_eq_false_iff_not, Bool.not_eq_true', Bool.not_eq_false', Bool.and_eq_true, Bool.or_eq_true, Bool.and_true, Bool.true_and] at *); omega) ha
         rw [sure_eq, hall]
         (simp only [decide_eq_true_eq, decide_eq_false_iff_not, Bool.not_eq_true', Bool.not_eq_false', Bool.and_eq_true, Bool.or_eq_true, Bool.and_true, Bool.true_and] at *); first | (simp_all [manyK]; done) | (simp_all [manyK]; omega))
theorem rright_ev (x : XT) (h : Small bigN x) : E 15 [.tv [] .expr x] [] (.tv [] .bool (right x)) [] := by
  refine ev_of (vc15 _ _ ?_)
  (repeat' (first | (intro _) | (refine And.intro ?_ ?_) | (refine Exists.intro _ (And.intro (Need.mk (rsure_ev x h)) ?_)) | (refine Exists.intro _ (Exists.intro _ (And.intro (Need.mk (rsure_ev x h)) ?_))) | (refine Exists.intro _ (Exists.intro _ (Exists.intro _ (And.intro (Need.mk (rsure_ev x h)) ?_)))) | (refine Need.mk ?_)))
  all_goals first | (with_reducible rfl) | ((first | refine tvI ?_ | refine tvB ?_ | refine tvS ?_ | refine tvX ?_ | refine tvE ?_); clear h; simp_all [right])

/-! How large one is. -/
mutual
def few : XT → Int → Int → Int
  | .mk _ _ l, left, deep => if left ≤ 0 ∨ deep ≤ 0 then -1 else fewL l (left - 1) (deep - 1)
def fewL : List XT → Int → Int → Int
  | [], left, _ => left
  | x :: l, left, deep => if few x left deep < 0 then -1 else fewL l (few x left deep) deep
end
theorem few_eq (x : XT) (left deep : Int) : few x left deep = if left ≤ 0 ∨ deep ≤ 0 then -1 else fewL x.kids (left - 1) (deep - 1) := by cases x; rfl
mutual
def sizeN : XT → Nat
  | .mk _ _ l => 1 + sizeNL l
def sizeNL : List XT → Nat
  | [] => 0
  | x :: l => sizeN x + sizeNL l
end
theorem sizeN_eq (x : XT) : sizeN x = 1 + sizeNL x.kids := by cases x; rfl
theorem sizeN_pos (x : XT) : 0 < sizeN x := by rw [sizeN_eq]; omega
theorem sizeNL_len : ∀ l : List XT, l.length ≤ sizeNL l
  | [] => by simp [sizeNL]
  | x :: l => by have := sizeNL_len l; have := sizeN_pos x; simp [sizeNL]; omega
theorem sizeNL_mem : ∀ {l : List XT} {y : XT}, y ∈ l → sizeN y ≤ sizeNL l
  | x :: l, y, h => by
    rcases List.mem_cons.1 h with e | e
    · subst e; simp [sizeNL]
    · have := sizeNL_mem e; simp [sizeNL]; omega
theorem small_of_size {b : Nat} : ∀ x : XT, sizeN x ≤ b → Small b x :=
  XT.ind' fun x ih h => by
    rw [sizeN_eq] at h
    have := sizeNL_len x.kids
    exact ⟨x, by omega, fun y hy => ih y hy (by have := sizeNL_mem hy; omega)⟩
theorem few_size : ∀ x : XT, ∀ left deep : Int, 0 ≤ few x left deep → (sizeN x : Int) + few x left deep = left := by
  refine XT.ind' fun x ih left deep h => ?_
  rw [few_eq] at h ⊢
  split at h
  · omega
  · rename_i hc
    rw [if_neg hc, sizeN_eq]
    have key : ∀ (l : List XT) (a d : Int), (∀ y ∈ l, ∀ left deep : Int, 0 ≤ few y left deep → (sizeN y : Int) + few y left deep = left) → 0 ≤ fewL l a d → (sizeNL l : Int) + fewL l a d = a := by
      intro l
      induction l with
      | nil => intro a d _ _; simp [sizeNL, fewL]
      | cons y l ihl =>
        intro a d hy hf
        simp only [fewL] at hf ⊢
        split at hf
        · omega
        · rename_i hn
          rw [if_neg hn]
          have h1 := hy y (List.mem_cons_self ..) a d (by omega)
          have h2 := ihl _ d (fun z hz => hy z (List.mem_cons_of_mem _ hz)) hf
          simp only [sizeNL]; omega
    have := key x.kids _ _ (fun y hy => ih y hy) h
    omega
theorem few_ev : ∀ x : XT, ∀ left deep : Int, left ≤ 1000 → -1000 ≤ left → deep ≤ 1000 → -1000 ≤ deep → E 10 [.tv [] .expr x, .tv [] (.int .i64) left, .tv [] (.int .i64) deep] [] (.tv [] (.int .i64) (few x left deep)) [] := by
  refine XT.ind' fun x ih left deep h1 h2 h3 h4 => ?_
  refine ev_of (vc10 _ _ _ _ ?_)
  refine ⟨fun h => ?_, fun h => ⟨fun g => ?_, fun g => ⟨⟨by (simp only [decide_eq_true_eq, decide_eq_false_iff_not, Bool.not_eq_true', Bool.not_eq_false'] at h); omega⟩, ?_⟩⟩⟩
  · (simp only [decide_eq_true_eq, decide_eq_false_iff_not, Bool.not_eq_true', Bool.not_eq_false'] at h); exact ⟨tvI (by rw [few_eq, if_pos (.inl h)]), rfl⟩
  · (simp only [decide_eq_true_eq, decide_eq_false_iff_not, Bool.not_eq_true', Bool.not_eq_false'] at g); exact ⟨tvI (by rw [few_eq, if_pos (.inr g)]), rfl⟩
  · (simp only [decide_eq_true_eq, decide_eq_false_iff_not, Bool.not_eq_true', Bool.not_eq_false'] at h)
    (simp only [decide_eq_true_eq, decide_eq_false_iff_not, Bool.not_eq_true', Bool.not_eq_false'] at g)
    have hfe : few x left deep = fewL x.kids (left - 1) (deep - 1) := by rw [few_eq, if_neg (by omega)]
    refine ⟨fun a i => ∃ n : Nat, i = n ∧ n ≤ x.kids.length ∧ 0 ≤ a ∧ a ≤ left - 1 - n ∧ fewL (x.kids.drop n) a (deep - 1) = few x left deep, fun a i => (x.kids.length - i).toNat, ⟨0, rfl, by omega, by omega, by omega, by rw [hfe]; rfl⟩, ?_⟩
    rintro a _ ⟨n, rfl, hn, ha, hb, hf⟩
    refine ⟨fun hl => ?_, fun hl => ?_⟩
    · (simp only [decide_eq_true_eq, decide_eq_false_iff_not, Bool.not_eq_true', Bool.not_eq_false'] at hl)
      have hn' : n < x.kids.length := by omega
      rw [drop_cons (XT.mk 0 0 []) hn'] at hf
      simp only [fewL] at hf
      refine ⟨⟨by omega⟩, ⟨by omega⟩, _, ⟨ih _ (getD_mem' _ (by simpa using hn')) _ _ (by omega) (by omega) (by omega) (by omega)⟩, fun hr => ?_, fun hr => ?_⟩
      · (simp only [decide_eq_true_eq, decide_eq_false_iff_not, Bool.not_eq_true', Bool.not_eq_false'] at hr)
        simp only [Int.toNat_natCast] at hr ⊢
        rw [if_pos hr] at hf
        exact ⟨tvI hf, (by trivial)⟩
      · (simp only [decide_eq_true_eq, decide_eq_false_iff_not, Bool.not_eq_true', Bool.not_eq_false'] at hr)
        simp only [Int.toNat_natCast] at hr ⊢
        rw [if_neg hr] at hf
        have hs := few_size _ _ _ (Int.not_lt.1 hr)
        have hp := sizeN_pos (x.kids.getD n (XT.mk 0 0 []))
        exact ⟨⟨by omega⟩, ⟨(by trivial)⟩, ⟨n + 1, rfl, by omega, by omega, by omega, hf⟩, ⟨by ((try dsimp only); omega)⟩⟩
    · (simp only [decide_eq_true_eq, decide_eq_false_iff_not, Bool.not_eq_true', Bool.not_eq_false'] at hl)
      have : n = x.kids.length := by omega
      rw [this, List.drop_length] at hf
      exact ⟨tvI hf, rfl⟩
end Go.Am.R
