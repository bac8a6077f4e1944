/-
  A part of the proof of a law: see the text that states it.
-/
import Derived.Test.YtlndoebddndlmaaDoorC
import Derived.Test.YtlndoebddndlmaaDoorK
import Derived.Test.YtlndoebddndlmaaDoorVc2
set_option linter.all false
namespace Go.Am.R
open Go
set_option maxRecDepth 100000
theorem compiles (x : XT) : E 3 [.tv [] .expr x] [] (.tv [] .bool true) [] := by
  refine ev_of (vc3 x _ ?_)
  refine ⟨_, ⟨awake_ev⟩, _, ⟨few_ev x 60 30 (by omega) (by omega) (by omega) (by omega)⟩, fun h => ⟨rfl, rfl⟩, fun h => ?_⟩
  (simp only [decide_eq_true_eq, decide_eq_false_iff_not, Bool.not_eq_true', Bool.not_eq_false'] at h)
  have hs := few_size x 60 30 (by omega)
  have hz : sizeN x ≤ 60 := by omega
  refine ⟨fun _ => ⟨_, ⟨comp_ev x (by omega)⟩, _, ⟨rcomp_ev x (by omega)⟩, _, ⟨ops_ev _ _ ?_⟩, ?_, rfl⟩, fun g => by cases g⟩
  · have := comp_len x; unfold bigN; omega
  · exact tvB (by simp)

/-! Which op may not be. -/
def checkGo (arity : Int) : List Op2 → Int → Nat → Int × Int
  | [], n, i => if i = 0 ∨ n = 1 then (0, 0) else ((i : Int), 31)
  | x :: l, n, i => if fitsK x.1 x.2.1 arity = false ∨ n < takesK x.1 then ((i : Int), 31) else checkGo arity l (n + (1 - takesK x.1)) (i + 1)
def check (l : List Op2) (arity : Int) : Int × Int := checkGo arity l 0 0
end Go.Am.R
