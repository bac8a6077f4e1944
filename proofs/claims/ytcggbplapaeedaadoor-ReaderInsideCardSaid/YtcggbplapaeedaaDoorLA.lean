/-
  A part of the proof of a law: see the text that states it.
-/
import Derived.Test.YtcggbplapaeedaaDoorAm4
import Derived.Test.YtcggbplapaeedaaDoorVc1
set_option linter.all false
namespace Go.Am.R.L
open Go Go.Am.Pr
set_option maxRecDepth 100000
def lowK (c : Int) : Int := IntKind.wrap .u8 ((BitVec.toNat ((BitVec.ofInt 8 c) ||| (BitVec.ofInt 8 (32 : Int)))) : Int)
def letterK (c : Int) : Bool := decide (c = 95) || (decide (97 ≤ lowK c) && decide (lowK c ≤ 122))
theorem letter_ev (c : Int) : E 66 [.tv [] (.int .u8) c] [] (.tv [] .bool (letterK c)) [] := by
 refine ev_of (vc66 c _ ?_)
 (repeat' (first | (intro _) | (refine And.intro ?_ ?_) | (refine Need.mk ?_)))
 all_goals first | (with_reducible rfl) | ((first | refine tvI ?_ | refine tvB ?_ | refine tvS ?_ | refine tvX ?_ | refine tvE ?_); simp_all [letterK, lowK]; done) | ((first | refine tvI ?_ | refine tvB ?_ | refine tvS ?_ | refine tvX ?_ | refine tvE ?_); simp_all [letterK, lowK]; intros; omega)
def partK (c : Int) : Bool := letterK c || (decide (48 ≤ c) && decide (c ≤ 57))
theorem part_ev (c : Int) : E 68 [.tv [] (.int .u8) c] [] (.tv [] .bool (partK c)) [] := by
 refine ev_of (vc68 c _ ?_)
 (repeat' (first | (intro _) | (refine And.intro ?_ ?_) | (refine Exists.intro _ (And.intro (Need.mk (letter_ev _)) ?_)) | (refine Exists.intro _ (Exists.intro _ (And.intro (Need.mk (letter_ev _)) ?_))) | (refine Exists.intro _ (Exists.intro _ (Exists.intro _ (And.intro (Need.mk (letter_ev _)) ?_)))) | (refine Need.mk ?_)))
 all_goals first | (with_reducible rfl) | ((first | refine tvI ?_ | refine tvB ?_ | refine tvS ?_ | refine tvX ?_ | refine tvE ?_); simp_all [partK]; done) | ((first | refine tvI ?_ | refine tvB ?_ | refine tvS ?_ | refine tvX ?_ | refine tvE ?_); simp_all [partK]; intros; omega)
def lowerK (c : Int) : Bool := decide (97 ≤ c) && decide (c ≤ 122)
theorem lower_ev (c : Int) : E 86 [.tv [] (.int .u8) c] [] (.tv [] .bool (lowerK c)) [] := by
 refine ev_of (vc86 c _ ?_)
 (repeat' (first | (intro _) | (refine And.intro ?_ ?_) | (refine Need.mk ?_)))
 all_goals first | (with_reducible rfl) | ((first | refine tvI ?_ | refine tvB ?_ | refine tvS ?_ | refine tvX ?_ | refine tvE ?_); simp_all [lowerK]; done) | ((first | refine tvI ?_ | refine tvB ?_ | refine tvS ?_ | refine tvX ?_ | refine tvE ?_); simp_all [lowerK]; intros; omega)
def signK (c : Int) : Int := if c = 43 then 5 else if c = 58 then 6 else if c = 124 then 7 else 8
theorem sign_ev (c : Int) : E 73 [.tv [] (.int .u8) c] [] (.tv [] (.int .i64) (signK c)) [] := by
 refine ev_of (vc73 c _ ?_)
 (repeat' (first | (intro _) | (refine And.intro ?_ ?_) | (refine Need.mk ?_)))
 all_goals first | (with_reducible rfl) | ((first | refine tvI ?_ | refine tvB ?_ | refine tvS ?_ | refine tvX ?_ | refine tvE ?_); (simp only [decide_eq_true_eq, decide_eq_false_iff_not, Bool.not_eq_true', Bool.not_eq_false', Bool.and_eq_true, Bool.or_eq_true, Bool.and_true, Bool.true_and] at *); simp_all [signK])
def runK (p : Int → Bool) : List Int → Nat
 | [] => 0
 | c :: r => if p c then runK p r + 1 else 0
theorem runK_le (p : Int → Bool) : ∀ l, runK p l ≤ l.length
 | [] => Nat.le_refl _
 | c :: r => by
  simp only [runK, List.length_cons]
  have := runK_le p r
  split <;> omega
theorem run_ev (s : List Int) (i : Int) (n : Nat) (e : i = n) (hn : n ≤ s.length) (hl : s.length ≤ 1000000) : E 67 [.tv [] .str s, .tv [] (.int .i64) i, .fn 68 [] []] [] (.tv [] (.int .i64) (runK partK (s.drop n) : Nat)) [] := by
 subst e
 refine ev_of (vc67 s n _ ?_)
 refine ⟨fun z => ∃ k : Nat, z = k ∧ n + k ≤ s.length ∧ runK partK (s.drop n) = k + runK partK (s.drop (n + k)), fun z => (s.length - z).toNat, ⟨0, rfl, by omega, by simp⟩, ?_⟩
 rintro z ⟨k, rfl, hk, hv⟩
 have hc : ((n : Int) + (k : Int)) = ((n + k : Nat) : Int) := by omega
 refine ⟨⟨by omega⟩, fun h => ?_, fun h => ?_⟩
 ·(simp only [decide_eq_true_eq, decide_eq_false_iff_not, Bool.not_eq_true', Bool.not_eq_false'] at h)
  have hn' : n + k < s.length := by omega
  have hd := drop_cons (0 : Int) hn'
  rw [hd] at hv
  simp only [runK] at hv
  refine ⟨⟨by omega⟩, ⟨by omega⟩, _, ⟨part_ev _⟩, fun hb => ⟨⟨by omega⟩, ⟨k + 1, rfl, by omega, ?_⟩, ⟨by ((try dsimp only); omega)⟩⟩, fun hb => ?_⟩
  ·rw [hc, Int.toNat_natCast] at hb
   rw [hb, if_pos rfl] at hv
   rw [hv, Nat.add_assoc n k 1]; omega
  ·rw [hc, Int.toNat_natCast] at hb
   rw [hb] at hv
   refine ⟨tvI ?_, rfl⟩
   rw [hv]; simp
 ·(simp only [decide_eq_true_eq, decide_eq_false_iff_not, Bool.not_eq_true', Bool.not_eq_false'] at h)
  have : s.drop (n + k) = [] := List.drop_eq_nil_of_le (by omega)
  rw [this] at hv
  refine ⟨tvI ?_, rfl⟩
  rw [hv]; simp [runK]
theorem run2_ev (s : List Int) (i : Int) (n : Nat) (e : i = n) (hn : n ≤ s.length) (hl : s.length ≤ 1000000) : E 67 [.tv [] .str s, .tv [] (.int .i64) i, .fn 86 [] []] [] (.tv [] (.int .i64) (runK lowerK (s.drop n) : Nat)) [] := by
 subst e
 refine ev_of (vc67002 s n _ ?_)
 refine ⟨fun z => ∃ k : Nat, z = k ∧ n + k ≤ s.length ∧ runK lowerK (s.drop n) = k + runK lowerK (s.drop (n + k)), fun z => (s.length - z).toNat, ⟨0, rfl, by omega, by simp⟩, ?_⟩
 rintro z ⟨k, rfl, hk, hv⟩
 have hc : ((n : Int) + (k : Int)) = ((n + k : Nat) : Int) := by omega
 refine ⟨⟨by omega⟩, fun h => ?_, fun h => ?_⟩
 ·(simp only [decide_eq_true_eq, decide_eq_false_iff_not, Bool.not_eq_true', Bool.not_eq_false'] at h)
  have hn' : n + k < s.length := by omega
  have hd := drop_cons (0 : Int) hn'
  rw [hd] at hv
  simp only [runK] at hv
  refine ⟨⟨by omega⟩, ⟨by omega⟩, _, ⟨lower_ev _⟩, fun hb => ⟨⟨by omega⟩, ⟨k + 1, rfl, by omega, ?_⟩, ⟨by ((try dsimp only); omega)⟩⟩, fun hb => ?_⟩
  ·rw [hc, Int.toNat_natCast] at hb
   rw [hb, if_pos rfl] at hv
   rw [hv, Nat.add_assoc n k 1]; omega
  ·rw [hc, Int.toNat_natCast] at hb
   rw [hb] at hv
   refine ⟨tvI ?_, rfl⟩
   rw [hv]; simp
 ·(simp only [decide_eq_true_eq, decide_eq_false_iff_not, Bool.not_eq_true', Bool.not_eq_false'] at h)
  have : s.drop (n + k) = [] := List.drop_eq_nil_of_le (by omega)
  rw [this] at hv
  refine ⟨tvI ?_, rfl⟩
  rw [hv]; simp [runK]
end Go.Am.R.L
