/-
  A part of the proof of a law: see the text that states it.
-/
import Derived.Test.YtgfkdbplahpknaaE
import Derived.Test.YtgfkdbplahpknaaVc5
set_option linter.all false
namespace Go.Am.T
open Go
set_option maxRecDepth 100000
theorem plan_ev (s : Sml) (h : SmOK s) : ∃ p : Pl, GoodP p ∧ E 23 [.tv [] tSm s] [] (.tv [] tPl p) [] := by
 obtain ⟨t, l, r, g, hg, e1⟩ := gram_ev s h
 obtain ⟨p, hp, e2⟩ := of_ev hg g
 refine ⟨p, hp, ?_⟩
 obtain ⟨x0, x1, a2, a3, a4, a5, a6, _⟩ := s
 exact ev_of (vc23 x0 x1 a2 a3 a4 a5 a6 _ ⟨_, _, _, _, _, _, _, _, ⟨e1⟩, _, _, _, _, _, _, _, _, _, _, ⟨e2⟩, rfl, rfl⟩)
end Go.Am.T
