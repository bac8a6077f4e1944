/-
  A part of the proof of a law: see the text that states it.
-/
import Derived.Test.YtlndoebddndlmaaDoorAm3
import Derived.Test.YtlndoebddndlmaaDoorVc1
set_option linter.all false
namespace Go.Am.R
open Go
set_option maxRecDepth 100000
abbrev Op2 := Int × Int × Unit
abbrev tOp : Ty := .pair (.int .i64) (.pair (.int .i64) .unit)

def isK (k : Int) : Bool := decide (1 ≤ k) && decide (k ≤ 9)
theorem is_ev (k : Int) : E 31 [.tv [] (.int .i64) k] [] (.tv [] .bool (isK k)) [] := by
  refine ev_of (vc31 k _ ?_)
  (repeat' (first | (intro _) | (refine And.intro ?_ ?_) | (refine Need.mk ?_)))
  all_goals first | (with_reducible rfl) | ((first | refine tvI ?_ | refine tvB ?_ | refine tvS ?_ | refine tvX ?_ | refine tvE ?_); (simp only [decide_eq_true_eq, decide_eq_false_iff_not, Bool.not_eq_true', Bool.not_eq_false', Bool.and_eq_true, Bool.or_eq_true, Bool.and_true, Bool.true_and] at *); simp [isK]; omega)
def hasK (k : Int) : Bool := decide (1 ≤ k) && decide (k ≤ 3)
theorem has_ev (k : Int) : E 34 [.tv [] (.int .i64) k] [] (.tv [] .bool (hasK k)) [] := by
  refine ev_of (vc34 k _ ?_)
  (repeat' (first | (intro _) | (refine And.intro ?_ ?_) | (refine Need.mk ?_)))
  all_goals first | (with_reducible rfl) | ((first | refine tvI ?_ | refine tvB ?_ | refine tvS ?_ | refine tvX ?_ | refine tvE ?_); (simp only [decide_eq_true_eq, decide_eq_false_iff_not, Bool.not_eq_true', Bool.not_eq_false', Bool.and_eq_true, Bool.or_eq_true, Bool.and_true, Bool.true_and] at *); simp [hasK]; omega)
def manyK (k : Int) : Int := if k < 4 then 0 else if k = 4 then 1 else 2
theorem many_ev (k : Int) : E 42 [.tv [] (.int .i64) k] [] (.tv [] (.int .i64) (manyK k)) [] := by
  refine ev_of (vc42 k _ ?_)
  (repeat' (first | (intro _) | (refine And.intro ?_ ?_) | (refine Need.mk ?_)))
  all_goals first | (with_reducible rfl) | ((first | refine tvI ?_ | refine tvB ?_ | refine tvS ?_ | refine tvX ?_ | refine tvE ?_); (simp only [decide_eq_true_eq, decide_eq_false_iff_not, Bool.not_eq_true', Bool.not_eq_false', Bool.and_eq_true, Bool.or_eq_true, Bool.and_true, Bool.true_and] at *); unfold manyK; (repeat' split) <;> omega)
def takesK (k : Int) : Int := if k = 1 ∨ k = 2 ∨ k = 3 then 0 else if k = 4 then 1 else if 5 ≤ k ∧ k ≤ 9 then 2 else -1
theorem takes_ev (k : Int) : E 33 [.tv [] (.int .i64) k] [] (.tv [] (.int .i64) (takesK k)) [] := by
  refine ev_of (vc33 k _ ?_)
  (repeat' (first | (intro _) | (refine And.intro ?_ ?_) | (refine Need.mk ?_)))
  all_goals first | (with_reducible rfl) | ((first | refine tvI ?_ | refine tvB ?_ | refine tvS ?_ | refine tvX ?_ | refine tvE ?_); (simp only [decide_eq_true_eq, decide_eq_false_iff_not, Bool.not_eq_true', Bool.not_eq_false', Bool.and_eq_true, Bool.or_eq_true, Bool.and_true, Bool.true_and] at *); unfold takesK; (repeat' split) <;> omega)
def fitsK (k n arity : Int) : Bool := isK k && decide (0 ≤ n) && decide (n ≤ 999999999999999999) && (hasK k || decide (n = 0)) && (!(decide (k = 2) || decide (k = 3)) || (decide (0 < n) && decide (n ≤ arity)))
theorem fits_ev (k n arity : Int) : E 29 [.tv [] tOp (k, n, ()), .tv [] (.int .i64) arity] [] (.tv [] .bool (fitsK k n arity)) [] := by
  refine ev_of (vc29 k n arity _ ?_)
  (repeat' (first | (intro _) | (refine And.intro ?_ ?_) | (refine Exists.intro _ (And.intro (Need.mk (is_ev _)) ?_)) | (refine Exists.intro _ (And.intro (Need.mk (has_ev _)) ?_)) | (refine Exists.intro _ (Exists.intro _ (And.intro (Need.mk (is_ev _)) ?_))) | (refine Exists.intro _ (Exists.intro _ (And.intro (Need.mk (has_ev _)) ?_))) | (refine Exists.intro _ (Exists.intro _ (Exists.intro _ (And.intro (Need.mk (is_ev _)) ?_)))) | (refine Exists.intro _ (Exists.intro _ (Exists.intro _ (And.intro (Need.mk (has_ev _)) ?_)))) | (refine Need.mk ?_)))
  all_goals first | (with_reducible rfl) | ((first | refine tvI ?_ | refine tvB ?_ | refine tvS ?_ | refine tvX ?_ | refine tvE ?_); simp_all [fitsK]; try omega)

/-! Expressions that can be. -/
mutual
def sure : XT → Bool
  | .mk k n l => decide (1 ≤ k) && decide (k ≤ 9) && decide ((l.length : Int) = manyK k) && decide (0 ≤ n) && decide (n ≤ 999999999999999999) && (decide (k < 4) || decide (n = 0)) && sureL l
def sureL : List XT → Bool
  | [] => true
  | x :: l => sure x && sureL l
end
theorem sureL_all : ∀ l : List XT, sureL l = l.all sure
  | [] => rfl
  | x :: l => by simp [sureL, sureL_all l]
theorem sure_eq (x : XT) : sure x = (decide (1 ≤ x.kind) && decide (x.kind ≤ 9) && decide ((x.kids.length : Int) = manyK x.kind) && decide (0 ≤ x.num) && decide (x.num ≤ 999999999999999999) && (decide (x.kind < 4) || decide (x.num = 0)) && x.kids.all sure) := by
  cases x; simp only [sure, sureL_all]; rfl
theorem ifunc_ev (l : List XT) (hl : l.length ≤ bigN) (hk : ∀ y ∈ l, E 44 [.tv [] .expr y] [] (.tv [] .bool (!sure y)) []) : ∃ i : Int, E 46 [.tv [] (.slice .expr) l, .fn 44 [] []] [] (.tv [] (.int .i64) i) [] ∧ (0 ≤ i ↔ l.all sure = false) := by
  have key : EvF PP orc 46 [.tv [] (.slice .expr) l, .fn 44 [] []] [] fun a h => ∃ i : Int, a = .tv [] (.int .i64) i ∧ h = [] ∧ (0 ≤ i ↔ l.all sure = false) := by
    refine vc46 l _ ?_
    unfold bigN at hl
    refine ⟨fun i => ∃ n : Nat, i = n ∧ n ≤ l.length ∧ (l.take n).all sure = true, fun i => (l.length - i).toNat, ⟨0, rfl, by omega, by simp⟩, ?_⟩
    rintro i ⟨n, rfl, hn, ha⟩
    refine ⟨fun h => ?_, fun h => ?_⟩
    · (simp only [decide_eq_true_eq, decide_eq_false_iff_not, Bool.not_eq_true', Bool.not_eq_false'] at h)
      have hn' : n < l.length := by omega
      have hts := take_snoc (XT.mk 0 0 []) hn'
      refine ⟨⟨by omega⟩, _, ⟨hk _ (getD_mem' _ (by simpa using hn'))⟩, fun hb => ⟨n, rfl, rfl, ⟨fun _ => ?_, fun _ => by omega⟩⟩, fun hb => ⟨⟨by omega⟩, ⟨n + 1, rfl, by omega, ?_⟩, ⟨by ((try dsimp only); omega)⟩⟩⟩
      · simp only [Int.toNat_natCast] at hb
        simp only [List.all_eq_false]
        exact ⟨_, getD_mem' _ hn', by simpa using hb⟩
      · simp only [Int.toNat_natCast] at hb
        rw [hts, List.all_append, ha]
        simpa using hb
    · (simp only [decide_eq_true_eq, decide_eq_false_iff_not, Bool.not_eq_true', Bool.not_eq_false'] at h)
      have : n = l.length := by omega
      subst this
      rw [List.take_length] at ha
      exact ⟨_, rfl, rfl, by rw [ha]; exact ⟨fun h => by omega, fun h => by cases h⟩⟩
  obtain ⟨a, h, e, i, rfl, rfl, hi⟩ := key
  exact ⟨i, e, hi⟩
theorem cfunc_ev (l : List XT) (hl : l.length ≤ bigN) (hk : ∀ y ∈ l, E 44 [.tv [] .expr y] [] (.tv [] .bool (!sure y)) []) : E 43 [.tv [] (.slice .expr) l, .fn 44 [] []] [] (.tv [] .bool (!l.all sure)) [] := by
  obtain ⟨i, hi, h2⟩ := ifunc_ev l hl hk
  refine ev_of (vc43 l _ ?_)
  refine ⟨_, ⟨hi⟩, tvE ?_, rfl⟩
  cases h : l.all sure <;> simp [h] at h2 ⊢ <;> omega
/-- No list of kids is longer than that. -/
inductive Small (b : Nat) : XT → Prop
  | mk (x : XT) (h : x.kids.length ≤ b) (k : ∀ y ∈ x.kids, Small b y) : Small b x
theorem Small.len {b : Nat} {x : XT} (h : Small b x) : x.kids.length ≤ b := by cases h; assumption
theorem Small.kid {b : Nat} {x : XT} (h : Small b x) : ∀ y ∈ x.kids, Small b y := by cases h; assumption
theorem sure_ev : ∀ x : XT, Small bigN x → E 40 [.tv [] .expr x] [] (.tv [] .bool (sure x)) [] := by
  refine XT.ind' fun x ih hs => ?_
  have hk : ∀ y ∈ x.kids, E 44 [.tv [] .expr y] [] (.tv [] .bool (!sure y)) [] := fun y hy => by
    refine ev_of (vc44 y _ ?_)
    (repeat' (first | (intro _) | (refine And.intro ?_ ?_) | (refine Exists.intro _ (And.intro (Need.mk (ih y hy (hs.kid y hy))) ?_)) | (refine Exists.intro _ (Exists.intro _ (And.intro (Need.mk (ih y hy (hs.kid y hy))) ?_))) | (refine Exists.intro _ (Exists.intro _ (Exists.intro _ (And.intro (Need.mk (ih y hy (hs.kid y hy))) ?_)))) | (refine Need.mk ?_)))
    all_goals (with_reducible rfl)
  refine ev_of (vc40 _ _ ?_)
  (repeat' (first | (intro _) | (refine And.intro ?_ ?_) | (refine Exists.intro _ (And.intro (Need.mk (many_ev _)) ?_)) | (refine Exists.intro _ (And.intro (Need.mk (cfunc_ev _ hs.len hk)) ?_)) | (refine Exists.intro _ (Exists.intro _ (And.intro (Need.mk (many_ev _)) ?_))) | (refine Exists.intro _ (Exists.intro _ (And.intro (Need.mk (cfunc_ev _ hs.len hk)) ?_))) | (refine Exists.intro _ (Exists.intro _ (Exists.intro _ (And.intro (Need.mk (many_ev _)) ?_)))) | (refine Exists.intro _ (Exists.intro _ (Exists.intro _ (And.intro (Need.mk (cfunc_ev _ hs.len hk)) ?_)))) | (refine Need.mk ?_)))
  all_goals first | (with_reducible rfl) | ((first | refine tvI ?_ | refine tvB ?_ | refine tvS ?_ | refine tvX ?_ | refine tvE ?_); clear ih hk hs; rw [sure_eq]; (simp only [decide_eq_true_eq, decide_eq_false_iff_not, Bool.not_eq_true', Bool.not_eq_false', Bool.and_eq_true, Bool.or_eq_true, Bool.and_true, Bool.true_and] at *); simp_all; try omega)
def right (x : XT) : Bool := (decide (x.kind = 0) && decide (x.num = 0) && decide (x.kids = [])) || sure x
theorem right_ev (x : XT) (h : Small bigN x) : E 28 [.tv [] .expr x] [] (.tv [] .bool (right x)) [] := by
  refine ev_of (vc28 _ _ ?_)
  (repeat' (first | (intro _) | (refine And.intro ?_ ?_) | (refine Exists.intro _ (And.intro (Need.mk (sure_ev x h)) ?_)) | (refine Exists.intro _ (Exists.intro _ (And.intro (Need.mk (sure_ev x h)) ?_))) | (refine Exists.intro _ (Exists.intro _ (Exists.intro _ (And.intro (Need.mk (sure_ev x h)) ?_)))) | (refine Need.mk ?_)))
  all_goals first | (with_reducible rfl) | ((first | refine tvI ?_ | refine tvB ?_ | refine tvS ?_ | refine tvX ?_ | refine tvE ?_); clear h; simp_all [right])
end Go.Am.R
