/-
  A part of the proof of a law: see the text that states it.
-/
import Derived.Test.YtlndoebddndlmaaDoorHead
import Derived.Test.YtlndoebddndlmaaDoorAm3
set_option linter.all false
namespace Go.Am.R
def isTrue : Option (AV × Heap) → Bool
  | some (.tv [] .bool true, []) => true
  | _ => false
set_option maxRecDepth 100000
theorem awake_true : isTrue (callF PP orc 1000 9 [] []) = true := by decide +kernel
theorem isTrue_eq {q : Option (AV × Heap)} (h : isTrue q = true) : q = some (.tv [] .bool true, []) := by
  unfold isTrue at h
  split at h
  · rfl
  · cases h
theorem awake_ev : E 9 [] [] (.tv [] .bool true) [] := ⟨1000, fun k hk => callF_mono 1000 k hk _ _ _ _ (isTrue_eq awake_true)⟩
theorem orc_types : orcB PP orc 85 = true := by decide +kernel
theorem orc_fns : fnsB PP orc 69 = true := by decide +kernel
end Go.Am.R
