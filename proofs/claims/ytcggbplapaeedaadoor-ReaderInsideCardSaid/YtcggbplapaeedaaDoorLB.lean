/-
  A part of the proof of a law: see the text that states it.
-/
import Derived.Test.YtcggbplapaeedaaDoorLA
import Derived.Test.YtcggbplapaeedaaDoorVc1
set_option linter.all false
namespace Go.Am.R.L
open Go Go.Am.Pr
set_option maxRecDepth 100000
theorem idx0_ev (s : List Int) (c : Int) : E 83 [.tv [] .str s, .tv [] (.int .u8) c] [] (.tv [] (.int .i64) (idxB s c)) [] := ev_of (vc83 s c _ ⟨rfl, rfl⟩)
theorem idx_ev (s : List Int) (c : Int) : E 64 [.tv [] .str s, .tv [] (.int .u8) c] [] (.tv [] (.int .i64) (idxB s c)) [] := ev_of (vc64 s c _ ⟨_, ⟨idx0_ev s c⟩, rfl, rfl⟩)
abbrev W3 : Ty := .pair (.int .i64) (.pair (.int .i64) .unit)
abbrev Res := Except (Int × Nat) (List Int × Nat)
def outT (i : Int) : Res → AV × Heap
 | .error (c, d) => (.tup [.tv [] .str [], .tv [] (.int .i64) 0, .op (1, 0) []], [((1, 0), ⟨⟨W3, (c, (i + d, ()))⟩, []⟩)])
 | .ok (t, k) => (.tup [.tv [] .str t, .tv [] (.int .i64) (i + k), .tv [] .ref none], [])
theorem ev_out {f : FuncId} {args : List AV} {h : Heap} {o : AV × Heap} (e : EvF PP orc f args h fun a' h'' => (a', h'') = o) : E f args h o.1 o.2 := by
 obtain ⟨a', h'', e, rfl⟩ := e
 exact e
def escF : List qT6 → Int → Option Int
 | [], _ => none
 | e :: r, d => if e.getD 0 0 = d then some (e.getD 1 0) else escF r d
def escK (may : List Int) (d : Int) : Option Int := if 0 ≤ idxB may d then escF escapesL d else none
def outE (i : Int) : Option Int → AV × Heap
 | none => (.tup [.tv [] (.int .u8) 0, .op (1, 0) []], [((1, 0), ⟨⟨W3, (10, (i, ()))⟩, []⟩)])
 | some c => (.tup [.tv [] (.int .u8) c, .tv [] .ref none], [])
def escS (may : List Int) : List Int → Option Int
 | [] => none
 | d :: _ => escK may d
theorem escape_ev (s : List Int) (i : Int) (n : Nat) (e : i = n) (may : List Int) (hn : n < s.length) (hl : s.length ≤ 1000000) :
  E 87 [.tv [] .str s, .tv [] (.int .i64) i, .tv [] .str may] [] (outE n (escS may (s.drop (n + 1)))).1 (outE n (escS may (s.drop (n + 1)))).2 := by
 subst e
 refine ev_out (vc87 s n may _ ?_)
 refine ⟨⟨by omega⟩, fun h => ?_, fun h => ?_⟩
 ·(simp only [decide_eq_true_eq, decide_eq_false_iff_not, Bool.not_eq_true', Bool.not_eq_false'] at h)
  have hn' : n + 1 < s.length := by omega
  rw [drop_cons (0 : Int) hn']
  have hc : ((n : Int) + (1 : Int)) = ((n + 1 : Nat) : Int) := by omega
  simp only [escS]
  rw [hc]
  simp only [Int.toNat_natCast]
  refine ⟨⟨by omega⟩, ⟨by omega⟩, _, ⟨idx_ev _ _⟩, fun h2 => ?_, fun h2 => ?_⟩
  ·(simp only [decide_eq_true_eq, decide_eq_false_iff_not, Bool.not_eq_true', Bool.not_eq_false'] at h2)
   refine ⟨fun z => ∃ k : Nat, z = k ∧ k ≤ 6 ∧ escF (escapesL.drop k) (s.getD (n + 1) 0) = escF escapesL (s.getD (n + 1) 0), fun z => (6 - z).toNat, ⟨0, rfl, by omega, by simp⟩, ?_⟩
   rintro z ⟨k, rfl, hk, hv⟩
   refine ⟨fun h3 => ?_, fun h3 => ?_⟩
   ·(simp only [decide_eq_true_eq, decide_eq_false_iff_not, Bool.not_eq_true', Bool.not_eq_false'] at h3)
    have hlen : escapesL.length = 6 := rfl
    have hk' : k < escapesL.length := by omega
    rw [drop_cons [(0 : Int), (0 : Int)] hk'] at hv
    simp only [escF] at hv
    refine ⟨⟨by omega⟩, ⟨by omega⟩, ⟨by omega⟩, ⟨by omega⟩, ⟨by omega⟩, fun h4 => ?_, fun h4 => ?_⟩
    ·(simp only [decide_eq_true_eq, decide_eq_false_iff_not, Bool.not_eq_true', Bool.not_eq_false'] at h4)
     simp only [Int.toNat_natCast] at h4
     rw [if_pos h4] at hv
     refine ⟨⟨by omega⟩, ⟨by omega⟩, ?_⟩
     unfold escK
     rw [if_pos h2, ← hv]
     simp only [Int.toNat_natCast, outE]
    ·(simp only [decide_eq_true_eq, decide_eq_false_iff_not, Bool.not_eq_true', Bool.not_eq_false'] at h4)
     simp only [Int.toNat_natCast] at h4
     rw [if_neg h4] at hv
     exact ⟨⟨by omega⟩, ⟨k + 1, rfl, by omega, hv⟩, ⟨by ((try dsimp only); omega)⟩⟩
   ·(simp only [decide_eq_true_eq, decide_eq_false_iff_not, Bool.not_eq_true', Bool.not_eq_false'] at h3)
    have hlen : escapesL.length = 6 := rfl
    have : escapesL.drop k = [] := List.drop_eq_nil_of_le (by omega)
    rw [this] at hv
    unfold escK
    rw [if_pos h2, ← hv]
    rfl
  ·(simp only [decide_eq_true_eq, decide_eq_false_iff_not, Bool.not_eq_true', Bool.not_eq_false'] at h2)
   unfold escK
   rw [if_neg (by omega)]
   rfl
 ·(simp only [decide_eq_true_eq, decide_eq_false_iff_not, Bool.not_eq_true', Bool.not_eq_false'] at h)
  have : s.drop (n + 1) = [] := List.drop_eq_nil_of_le (by omega)
  rw [this]
  rfl
end Go.Am.R.L
