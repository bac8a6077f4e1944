/-
  A part of the proof of a law: see the text that states it.
-/
import Derived.Test.YtcggbplapaeedaaDoorY
import Derived.Test.YtcggbplapaeedaaDoorVcH
set_option linter.all false
namespace Go.Am.R
open Go Go.Am.Pr Go.Am.R.L
set_option maxRecDepth 100000
abbrev tB : Ty := .pair .wref qt6
abbrev hB (b : List Int) : Heap := [((0, 0), ⟨⟨tB, ((some (0, 0) : Option Key), (b, ()))⟩, [[1]]⟩)]
abbrev tB2 : Ty := .pair tB .unit
abbrev hB2 (b : List Int) : Heap := [((0, 0), ⟨⟨tB2, (((some (0, 0) : Option Key), (b, ())), ())⟩, [[0, 1]]⟩)]
abbrev sv (s : List Int) : AV := .tv [] .str s
section
variable (b s : List Int) (c : Int)
theorem cc_ev : E 79 [.op (0, 0) []] (hB b) (.tup []) (hB b) := ev_of (vc79 b _ ⟨⟨by unfold bigN; omega⟩, rfl, rfl⟩)
theorem cc2_ev : E 79 [.op (0, 0) [0]] (hB2 b) (.tup []) (hB2 b) := ev_of (vc79002 b _ ⟨⟨by unfold bigN; omega⟩, rfl, rfl⟩)
theorem str_ev (hb : b.length ≤ bigN) : E 34 [.op (0, 0) []] (hB b) (sv b) [((0, 0), ⟨⟨tB, ((some (0, 0) : Option Key), (b, ()))⟩, []⟩)] := ev_of (vc34 b _ ⟨⟨hb⟩, rfl, rfl⟩)
theorem str2_ev (hb : b.length ≤ bigN) : E 34 [.op (0, 0) [0]] (hB2 b) (sv b) [((0, 0), ⟨⟨tB2, (((some (0, 0) : Option Key), (b, ())), ())⟩, []⟩)] := ev_of (vc34002 b _ ⟨⟨hb⟩, rfl, rfl⟩)
theorem len2_ev : E 33 [.op (0, 0) [0]] (hB2 b) (iv (b.length : Int)) (hB2 b) := ev_of (vc33002 b _ ⟨rfl, rfl⟩)
theorem ws_ev (hb : b.length + s.length ≤ bigN) : E 54 [.op (0, 0) [], sv s] (hB b) (.tup [iv (s.length : Int), .any]) (hB (b ++ s)) := ev_of (vc54 s b _ ⟨b, ⟨cc_ev b⟩, ⟨hb⟩, rfl, rfl⟩)
theorem ws2_ev (hb : b.length + s.length ≤ bigN) : E 54 [.op (0, 0) [0], sv s] (hB2 b) (.tup [iv (s.length : Int), .any]) (hB2 (b ++ s)) := ev_of (vc54002 b s _ ⟨b, ⟨cc2_ev b⟩, ⟨hb⟩, rfl, rfl⟩)
theorem wb_ev (hb : b.length + 1 ≤ bigN) : E 55 [.op (0, 0) [], .tv [] (.int .u8) c] (hB b) .any (hB (b ++ [c])) := ev_of (vc55 c b _ ⟨b, ⟨cc_ev b⟩, ⟨hb⟩, rfl, rfl⟩)
theorem wb2_ev (hb : b.length + 1 ≤ bigN) : E 55 [.op (0, 0) [0], .tv [] (.int .u8) c] (hB2 b) .any (hB2 (b ++ [c])) := ev_of (vc55002 b c _ ⟨b, ⟨cc2_ev b⟩, ⟨hb⟩, rfl, rfl⟩)
end
abbrev joinL (sep : List Int) (l : List qT6) : List Int := List.intercalate sep l
theorem join_ev (l : List qT6) (sep : List Int) (h1 : l.length ≤ bigN) (h2 : (joinL sep l).length ≤ 140737488355328) : E 44 [.tv [] qt11 l, .tv [] .str sep] [] (sv (joinL sep l)) [] :=
 ev_prim (g := joinPrim) [] rfl (by show (if _ then _ else _) = _; rw [if_pos ⟨h1, h2⟩])
theorem line_ev (l : List qT6) (b : List Int) (h1 : l.length ≤ 1000000) (h2 : (joinL [32] l).length ≤ 100000000) (hb : b.length ≤ 100000000) : E 32 [.op (0, 0) [], .tv [] qt11 l] (hB2 b) (.tup []) (hB2 (b ++ joinL [32] l ++ [10])) := by
 refine ev_of (vc32 l b _ ⟨_, ⟨join_ev l [32] (by unfold bigN; omega) (by omega)⟩, _, _, ⟨ws2_ev b _ (by unfold bigN; omega)⟩, _, ⟨wb2_ev _ 10 ?_⟩, rfl, rfl⟩)
 rw [List.length_append]; unfold bigN; omega
theorem escB_len (which : List Int) (c : Int) : 1 ≤ (escB which c).length ∧ (escB which c).length ≤ 2 := by
 unfold escB
 split
 ·exact ⟨by decide, by decide⟩
 ·split
  ·exact ⟨by decide, by decide⟩
  ·split
   ·exact ⟨by simp, by simp⟩
   ·exact ⟨by simp, by simp⟩
theorem escT_len (which : List Int) : ∀ s : List Int, (escT which s).length ≤ 2 * s.length
 | [] => by simp [escT]
 | c :: s => by
  have e : escT which (c :: s) = escB which c ++ escT which s := rfl
  have := escB_len which c
  have := escT_len which s
  rw [e, List.length_append, List.length_cons]; omega
theorem escT_cons (which : List Int) (c : Int) (s : List Int) : escT which (c :: s) = escB which c ++ escT which s := rfl
theorem escaped_ev (s which : List Int) (hs : s.length ≤ 1000000) : E 45 [sv s, sv which] [] (sv (escT which s)) [] := by
 refine ev_of (vc45 s which _ ?_)
 refine ⟨fun z b => ∃ k : Nat, z = k ∧ k ≤ s.length ∧ b.length ≤ 2 * k ∧ b ++ escT which (s.drop k) = escT which s, fun z _ => ((s.length : Int) - z).toNat, ⟨0, rfl, by omega, by simp, by simp⟩, ?_⟩
 rintro z b ⟨k, rfl, hk, hbl, hv⟩
 refine ⟨fun h => ?_, fun h => ?_⟩
 ·(simp only [decide_eq_true_eq, decide_eq_false_iff_not, Bool.not_eq_true', Bool.not_eq_false'] at h)
  have hk' : k < s.length := by omega
  have hd : s.drop k = s.getD k 0 :: s.drop (k + 1) := drop_cons (0 : Int) hk'
  rw [hd, escT_cons] at hv
  simp only [Int.toNat_natCast]
  have hc : ((k : Int) + (1 : Int)) = ((k + 1 : Nat) : Int) := by omega
  refine ⟨⟨by omega⟩, fun h2 => ?_, fun h2 => ?_⟩
  ·(simp only [decide_eq_true_eq, decide_eq_false_iff_not, Bool.not_eq_true', Bool.not_eq_false'] at h2)
   have e : escB which (s.getD k 0) = [92, 110] := by unfold escB; rw [if_pos h2]
   rw [e] at hv
   refine ⟨_, _, ⟨ws_ev b [92, 110] (by rw [show ([92, 110] : List Int).length = 2 from rfl]; unfold bigN; omega)⟩, ⟨by omega⟩, ⟨k + 1, hc, by omega, by rw [List.length_append, show ([92, 110] : List Int).length = 2 from rfl]; omega, by rw [List.append_assoc]; exact hv⟩, ⟨by omega⟩⟩
  (simp only [decide_eq_true_eq, decide_eq_false_iff_not, Bool.not_eq_true', Bool.not_eq_false'] at h2)
  refine ⟨fun h3 => ?_, fun h3 => ?_⟩
  ·(simp only [decide_eq_true_eq, decide_eq_false_iff_not, Bool.not_eq_true', Bool.not_eq_false'] at h3)
   have e : escB which (s.getD k 0) = [92, 116] := by unfold escB; rw [if_neg h2, if_pos h3]
   rw [e] at hv
   refine ⟨_, _, ⟨ws_ev b [92, 116] (by rw [show ([92, 116] : List Int).length = 2 from rfl]; unfold bigN; omega)⟩, ⟨by omega⟩, ⟨k + 1, hc, by omega, by rw [List.length_append, show ([92, 116] : List Int).length = 2 from rfl]; omega, by rw [List.append_assoc]; exact hv⟩, ⟨by omega⟩⟩
  (simp only [decide_eq_true_eq, decide_eq_false_iff_not, Bool.not_eq_true', Bool.not_eq_false'] at h3)
  refine ⟨_, ⟨idx_ev which _⟩, fun h4 => ?_, fun h4 => ?_⟩
  ·(simp only [decide_eq_true_eq, decide_eq_false_iff_not, Bool.not_eq_true', Bool.not_eq_false'] at h4)
   have e : escB which (s.getD k 0) = [92, s.getD k 0] := by unfold escB; rw [if_neg h2, if_neg h3, if_pos h4]
   rw [e] at hv
   refine ⟨_, ⟨wb_ev b 92 (by unfold bigN; omega)⟩, _, ⟨wb_ev _ _ (by rw [List.length_append, List.length_singleton]; unfold bigN; omega)⟩, ⟨by omega⟩, ⟨k + 1, hc, by omega, by rw [List.length_append, List.length_append, List.length_singleton, List.length_singleton]; omega, by rw [List.append_assoc, List.append_assoc]; exact hv⟩, ⟨by omega⟩⟩
  ·(simp only [decide_eq_true_eq, decide_eq_false_iff_not, Bool.not_eq_true', Bool.not_eq_false'] at h4)
   have e : escB which (s.getD k 0) = [s.getD k 0] := by unfold escB; rw [if_neg h2, if_neg h3, if_neg (by omega)]
   rw [e] at hv
   refine ⟨_, ⟨wb_ev b _ (by unfold bigN; omega)⟩, ⟨by omega⟩, ⟨k + 1, hc, by omega, by rw [List.length_append, List.length_singleton]; omega, by rw [List.append_assoc]; exact hv⟩, ⟨by omega⟩⟩
 ·(simp only [decide_eq_true_eq, decide_eq_false_iff_not, Bool.not_eq_true', Bool.not_eq_false'] at h)
  have hk' : k = s.length := by omega
  subst hk'
  rw [List.drop_length] at hv
  have hv' : b = escT which s := by rw [← hv]; simp [escT]
  refine ⟨_, _, ⟨str_ev b (by unfold bigN; omega)⟩, ?_⟩
  rw [hv']; exact ⟨rfl, rfl⟩
def cT : List Int := [92, 93, 45]
def patT (p : Pat) : List Int := if p.1 ≠ [] then [34] ++ escT qT p.1 ++ [34] else if p.2.2.1 = true then [91] ++ escT cT p.2.1 ++ [93] ++ [43] else [91] ++ escT cT p.2.1 ++ [93]
theorem patT_len (p : Pat) : (patT p).length ≤ 2 * p.1.length + 2 * p.2.1.length + 3 := by
 have h1 := escT_len qT p.1
 have h2 := escT_len cT p.2.1
 unfold patT
 split
 ·simp; omega
 ·split <;> (simp; omega)
theorem Pattern_ev (p : Pat) (h1 : p.1.length ≤ 10000) (h2 : p.2.1.length ≤ 10000) : E 25 [.tv [] tPat p] [] (sv (patT p)) [] := by
 obtain ⟨t, s, m, ⟨⟩⟩ := p
 dsimp only at h1 h2
 have l1 := escT_len qT t
 have l2 := escT_len cT s
 refine ev_of (vc25 t s m _ ⟨fun h => ?_, fun h => ?_⟩)
 ·simp only [Bool.not_eq_true', decide_eq_false_iff_not] at h
  refine ⟨_, ⟨escaped_ev t qT (by omega)⟩, ⟨by unfold bigN; omega⟩, ⟨by rw [List.length_append, List.length_singleton]; unfold bigN; omega⟩, ?_⟩
  rw [patT, if_pos h]; exact ⟨rfl, rfl⟩
 ·simp only [Bool.not_eq_false', decide_eq_true_eq] at h
  refine ⟨_, ⟨escaped_ev s cT (by omega)⟩, ⟨by unfold bigN; omega⟩, ⟨by rw [List.length_append, List.length_singleton]; unfold bigN; omega⟩, fun hm => ⟨⟨by rw [List.length_append, List.length_append, List.length_singleton, List.length_singleton]; unfold bigN; omega⟩, ?_⟩, fun hm => ?_⟩
  ·rw [patT, if_neg (fun q => q h), if_pos hm]; exact ⟨rfl, rfl⟩
  ·rw [patT, if_neg (fun q => q h), if_neg (by rw [show (t, s, m, ()).2.2.1 = m from rfl, hm]; decide)]; exact ⟨rfl, rfl⟩
end Go.Am.R
