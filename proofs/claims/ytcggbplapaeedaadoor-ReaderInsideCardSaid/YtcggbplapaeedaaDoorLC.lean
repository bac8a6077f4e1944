/-
  A part of the proof of a law: see the text that states it.
-/
import Derived.Test.YtcggbplapaeedaaDoorLB
import Derived.Test.YtcggbplapaeedaaDoorVc1
set_option linter.all false
namespace Go.Am.R.L
open Go Go.Am.Pr
set_option maxRecDepth 100000
def mayT : List Int := [92, 34, 110, 116]
def mayC : List Int := [92, 93, 45, 110, 116]
def textL (out : List Int) (k : Nat) : List Int → Res
 | [] => .error (11, 0)
 | c :: r => if c = 10 then .error (11, 0) else if c = 34 then (if (out.length : Int) = 0 then .error (10, 0) else if 32 < (out.length : Int) then .error (12, 0) else .ok (out, k + 1))
  else if c = 92 then (match r with
   | [] => .error (10, k)
   | d :: r' => match escK mayT d with
    | none => .error (10, k)
    | some e => textL (out ++ [e]) (k + 2) r')
  else textL (out ++ [c]) (k + 1) r
theorem textL_cons (out : List Int) (k : Nat) (c : Int) (r : List Int) : textL out k (c :: r) = if c = 10 then .error (11, 0) else if c = 34 then (if (out.length : Int) = 0 then .error (10, 0) else if 32 < (out.length : Int) then .error (12, 0) else .ok (out, k + 1))
  else if c = 92 then (match r with
   | [] => .error (10, k)
   | d :: r' => match escK mayT d with
    | none => .error (10, k)
    | some e => textL (out ++ [e]) (k + 2) r')
  else textL (out ++ [c]) (k + 1) r := by
 rw [textL.eq_def]
def textK (r : List Int) : Res := textL [] 1 r.tail
theorem text_ev (s : List Int) (i : Int) (n : Nat) (e : i = n) (hn : n < s.length) (hl : s.length ≤ 1000000) :
  E 70 [.tv [] .str s, .tv [] (.int .i64) i] [] (outT n (textK (s.drop n))).1 (outT n (textK (s.drop n))).2 := by
 subst e
 refine ev_out (vc70 s n _ ?_)
 have hb : (1000000 : Nat) ≤ bigN := by decide
 generalize bigN = big at hb ⊢
 refine ⟨⟨by omega⟩, fun out z => ∃ k : Nat, z = ((n + k : Nat) : Int) ∧ out.length ≤ k ∧ n + k ≤ s.length + 1 ∧ textL out k (s.drop (n + k)) = textK (s.drop n), fun _ z => (s.length + 1 - z).toNat, ⟨1, by omega, Nat.zero_le _, by omega, by simp [textK, List.tail_drop]⟩, ?_⟩
 rintro out z ⟨k, rfl, ho, hk, hv⟩
 refine ⟨fun h => ?_, fun h => ?_⟩
 ·(simp only [decide_eq_true_eq, decide_eq_false_iff_not, Bool.not_eq_true', Bool.not_eq_false'] at h)
  have hn' : n + k < s.length := by omega
  rw [drop_cons (0 : Int) hn'] at hv
  rw [textL_cons] at hv
  rw [Int.toNat_natCast]
  refine ⟨⟨by omega⟩, fun h1 => ⟨⟨by omega⟩, fun h2 => ⟨fun h3 => ?_, fun h3 => ⟨fun h4 => ?_, fun h4 => ⟨⟨by omega⟩, ?_⟩⟩⟩, fun h2 => ⟨fun h3 => ?_, fun h3 => ⟨⟨by omega⟩, ⟨by simp only [List.length_cons, List.length_nil]; omega⟩, ⟨by omega⟩, ⟨k + 1, by omega, by simp; omega, by omega, ?_⟩, ⟨by ((try dsimp only); omega)⟩⟩⟩⟩, fun h1 => ?_⟩
  all_goals simp only [decide_eq_true_eq, decide_eq_false_iff_not, ne_eq, Decidable.not_not] at *
  ·rw [if_neg h1, if_pos h2, if_pos h3] at hv
   rw [← hv]; simp [outT]
  ·rw [if_neg h1, if_pos h2, if_neg h3, if_pos h4] at hv
   rw [← hv]; simp [outT]
  ·rw [if_neg h1, if_pos h2, if_neg h3, if_neg h4] at hv
   have : ((n + k : Nat) : Int) + 1 = (n : Int) + ((k + 1 : Nat) : Int) := by omega
   rw [← hv, this]; rfl
  ·rw [if_neg h1, if_neg h2, if_pos h3] at hv
   have he := escape_ev s ((n + k : Nat) : Int) (n + k) rfl mayT hn' hl
   cases hr : s.drop (n + k + 1) with
   | nil =>
    rw [hr] at hv he
    simp only [escS, outE] at he
    refine .inl ⟨_, _, _, ⟨he⟩, fun _ => ?_, nofun⟩
    rw [← hv]; simp [outT]
   | cons d r =>
    rw [hr] at hv he
    simp only [escS] at he
    simp only at hv
    cases hx : escK mayT d with
    | none =>
     rw [hx] at hv he
     simp only [outE] at he
     refine .inl ⟨_, _, _, ⟨he⟩, fun _ => ?_, nofun⟩
     rw [← hv]; simp [outT]
    | some y =>
     rw [hx] at hv he
     simp only [outE] at he
     have hlen := congrArg List.length hr
     simp only [List.length_drop, List.length_cons] at hlen
     refine .inr ⟨_, ⟨he⟩, nofun, fun _ => ⟨⟨by simp only [List.length_cons, List.length_nil]; omega⟩, ⟨by omega⟩, ⟨by omega⟩, ⟨k + 2, by omega, by simp; omega, by omega, ?_⟩, ⟨by ((try dsimp only); omega)⟩⟩⟩
     have : s.drop (n + (k + 2)) = r := by
      have := congrArg List.tail hr
      simpa [List.tail_drop, Nat.add_assoc] using this
     rw [this, ← hv]
  ·rw [if_neg h1, if_neg h2, if_neg h3] at hv
   rw [← hv, Nat.add_assoc]
  ·rw [if_pos h1] at hv
   rw [← hv]; simp [outT]
 ·(simp only [decide_eq_true_eq, decide_eq_false_iff_not, Bool.not_eq_true', Bool.not_eq_false'] at h)
  have : s.drop (n + k) = [] := List.drop_eq_nil_of_le (by omega)
  rw [this] at hv
  simp only [textL] at hv
  rw [← hv]; simp [outT]
end Go.Am.R.L
