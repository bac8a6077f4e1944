/-
  A part of the proof of a law: see the text that states it.
-/
import Derived.Test.YtcggbplapaeedaaDoorLL2
set_option linter.all false
namespace Go.Am.R.L
open Go Go.Am.Pr
set_option maxRecDepth 100000
theorem tok34 (r : List Int) : tokK (34 :: r) = tokOf 3 (textK (34 :: r)) := by
 rw [tokK, if_neg (by decide), if_neg (by decide), if_neg (by decide), if_neg (by decide), if_pos rfl]
theorem lexS_nil (f k : Nat) : lexS f k [] = .ok [] := by cases f <;> rfl
end Go.Am.R.L
