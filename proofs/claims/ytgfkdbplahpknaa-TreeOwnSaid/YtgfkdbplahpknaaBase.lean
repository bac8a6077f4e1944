/-
  A part of the proof of a law: see the text that states it.
-/
import Derived.Test.YtgfkdbplahpknaaP
import Derived.Test.YtgfkdbplahpknaaAm4
import Derived.Test.YtgfkdbplahpknaaRows
set_option linter.all false
namespace Go.Am.T
open Go Go.Proofs Go.Proofs.Ytgfkdbplahpknaa
open Go.ChangeShapes Go.WideShapes Go.ChangeAt Go.RowKit
set_option maxRecDepth 100000
theorem orc_types : orcB PP orc 158 = true := by decide +kernel
theorem orc_fns : fnsB PP orc 111 = true := by decide +kernel
theorem orcOK : OrcOK PP orc := orcB_ok (fun T h => by
  show tyTab.getD T none = none
  rw [List.getD_eq_getElem?_getD, List.getElem?_eq_none (by simpa [tyTab] using h)]; rfl) orc_types
theorem progOK : ProgOK PP orc where
 orc := orcOK
 mixed := by kernel_rfl
 fns := fnsB_ok (fun f h => by
  show fnsTab.getD f false = false
  rw [List.getD_eq_getElem?_getD, List.getElem?_eq_none (by simpa [fnsTab] using h)]; rfl) orc_fns
 prim := fun f g h => by
  have e : (if f = 62 then some joinPrim else none) = some g := h
  split at e
  ·rename_i e1; subst e1; cases e; exact prim62
  ·cases e
 hprim := fun f g h => by cases h
theorem own : ownKnob Try.prog.godebug = none := by kernel_rfl
theorem laidOut : laidOutB Try.prog = true := by kernel_rfl
theorem typ4 : Try.prog.underlying 4 = some .bool := by kernel_rfl
theorem globAt {W : World} : GlobAt orc W := fun g d h => by cases h
theorem of_E {f : FuncId} {l : List AV} (h : E f l [] (.tv [] .bool true) []) : ∃ k own h', callF PP orc k f l [] = some (.tv own .bool true, h') := by
 obtain ⟨k, hk⟩ := h
 exact ⟨k, [], [], hk k (Nat.le_refl _)⟩
end Go.Am.T
