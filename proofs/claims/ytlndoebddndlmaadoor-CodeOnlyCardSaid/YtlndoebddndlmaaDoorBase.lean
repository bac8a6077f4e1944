/-
  A part of the proof of a law: see the text that states it.
-/
import Derived.Test.YtlndoebddndlmaaDoorK
import Derived.Test.YtlndoebddndlmaaDoorAm3
import Derived.Test.YtlndoebddndlmaaDoorRows
import Derived.Test.YtlndoebddndlmaaDoorTie
import Derived.Test.YtlndoebddndlmaaDoorCards
import Derived.SevenTiedAt
set_option linter.all false
namespace Go.Am.R
open Go Go.Proofs Go.Proofs.YtlndoebddndlmaaDoor
open Go.ChangeShapes Go.WideShapes Go.ChangeAt Go.RowKit
set_option maxRecDepth 100000
theorem progOK : ProgOK PP orc where
  orc := orcB_ok (fun T h => by
    show tyTab.getD T none = none
    rw [List.getD_eq_getElem?_getD, List.getElem?_eq_none (by simpa [tyTab] using h)]; rfl) orc_types
  mixed := by kernel_rfl
  fns := fnsB_ok (fun f h => by
    show fnsTab.getD f false = false
    rw [List.getD_eq_getElem?_getD, List.getElem?_eq_none (by simpa [fnsTab] using h)]; rfl) orc_fns
  prim := fun f g h => by cases h
theorem own : ownKnob Tryd.prog.godebug = none := by kernel_rfl
theorem laidOut : laidOutB Tryd.prog = true := by kernel_rfl
theorem typ4 : Tryd.prog.underlying 4 = some .bool := by kernel_rfl
theorem takes_global : Tryd.prog.globalNamed "tronage/code.takes" = some 0 := by kernel_rfl
theorem takes_type : (Tryd.prog.globals[0]?).map (·.type) = some 53 := by kernel_rfl
/-- What is laid is what the tables say. -/
theorem globAt {W : World} (h : laidMetH Tryd.prog [("tronage/code.takes", Rows.laid_tronage_code_takes)] W) : GlobAt orc W := by
  have h' : laidMet Tryd.prog [("tronage/code.takes", Rows.laid_tronage_code_takes)] W := h
  obtain ⟨ps, ⟨g, t, cs, fuel, p, q, hg, ht, hvar, hd, _, _⟩, _⟩ := h'
  obtain rfl := Option.some.inj (takes_global.symm.trans hg)
  obtain rfl := Option.some.inj (takes_type.symm.trans ht)
  intro g d hgd
  have : g = 0 ∧ d = ⟨.arr false 10 (.int .i64), takesL⟩ := by
    have e : (if g = 0 then some (⟨.arr false 10 (.int .i64), takesL⟩ : Dat) else none) = some d := hgd
    split at e
    · exact ⟨‹_›, by cases e; rfl⟩
    · cases e
  obtain ⟨rfl, rfl⟩ := this
  exact glob_open progOK.orc (T := 53) rfl rfl (fun j => World.var?_cell hg hvar j) hd rfl
def cells10 : Array Value := #[.int .i64 0, .int .i64 0, .int .i64 0, .int .i64 0, .int .i64 1, .int .i64 2, .int .i64 2, .int .i64 2, .int .i64 2, .int .i64 2]
/-- A world that meets the condition. -/
noncomputable def laidWorld (os : Os) : World :=
  { World.holding Tryd.prog os ⟨#[], #[], []⟩ with heap := (World.holding Tryd.prog os ⟨#[], #[], []⟩).heap.modify 0 fun
      | .cells _ t frozen => .cells cells10 t frozen
      | o => o }
theorem laidWorld_row (os : Os) (args : Array Value) : ((laidWorld os).forCall (fun _ _ => 0) ⟨#[], args, []⟩).memory.heap[0]? = some (.cells cells10 53 (0, 0)) := by kernel_rfl
theorem laidWorld_met (os : Os) (args : Array Value) : laidMetH Tryd.prog [("tronage/code.takes", Rows.laid_tronage_code_takes)] ((laidWorld os).forCall (fun _ _ => 0) ⟨#[], args, []⟩).memory := by
  show laidMet _ _ _
  refine ⟨_, ⟨0, 53, cells10, 8, [], [], by kernel_rfl, by kernel_rfl, by kernel_rfl, by kernel_rfl, rfl, rfl⟩, by decide, fun b off h => ?_⟩
  have h' : MemPlace.cell b off ∈ [MemPlace.cell 0 0, .cell 0 1, .cell 0 2, .cell 0 3, .cell 0 4, .cell 0 5, .cell 0 6, .cell 0 7, .cell 0 8, .cell 0 9] := h
  have hb : b = 0 := by
    simp at h'
    omega
  subst hb
  refine ⟨⟨_, _, laidWorld_row os args⟩, fun u v hc => ?_⟩
  simp only [World.cell?, laidWorld_row os args] at hc
  simp at h'
  rcases h' with rfl | rfl | rfl | rfl | rfl | rfl | rfl | rfl | rfl | rfl <;> simp [cells10] at hc

theorem of_E {f : FuncId} {l : List AV} (h : E f l [] (.tv [] .bool true) []) : ∃ k own h', callF PP orc k f l [] = some (.tv own .bool true, h') := by
  obtain ⟨K, hK⟩ := h
  exact ⟨K, _, _, hK K (Nat.le_refl _)⟩
end Go.Am.R
