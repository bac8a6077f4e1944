/-
  tronagelaw21.CodeOnly answers true whatever its arguments are, and leaves them as they were; the table code.takes is as the text of the program lays it.
-/
import Derived.Test.YtlndoebddndlmaaDoorN
import Derived.Test.YtlndoebddndlmaaDoorBase
set_option linter.all false
namespace Go.Am.R
open Go Go.Proofs Go.Proofs.YtlndoebddndlmaaDoor
open Go.ChangeShapes Go.WideShapes Go.ChangeAt Go.RowKit
set_option maxRecDepth 100000
theorem readable6 : ∀ t ∈ Tryd.f6.params.toList, Tryd.prog.readableRec t = true ∧ t < Tryd.prog.types.size := by
  rw [Tryd.params6]
  intro t ht
  simp only [List.mem_cons, List.not_mem_nil, or_false] at ht
  rcases ht with rfl | rfl <;> exact ⟨by kernel_rfl, of_decide_eq_true (by kernel_rfl)⟩
theorem typed6 : ∀ T ∈ Tryd.f6.params.toList, ∃ t, orc.ty T = some t ∧ t.opn = true := by
  rw [Tryd.params6]
  intro t ht
  simp only [List.mem_cons, List.not_mem_nil, or_false] at ht
  rcases ht with rfl | rfl <;> exact ⟨_, rfl, rfl⟩
theorem all6 (W : World) (vs : List Value) (l : List AV) (h : ArgsAre PP orc W Tryd.f6.params.toList vs l) : ∃ k own h', callF PP orc k 6 l [] = some (.tv own .bool true, h') := by
  rw [Tryd.params6] at h
  obtain ⟨t0, x0, l0, vs0, ht0, rfl, hi0, h0⟩ := h.cons
  obtain ⟨t1, x1, l1, vs1, ht1, rfl, hi1, h1⟩ := h0.cons
  obtain rfl := h1.nil
  cases ht0
  cases ht1
  exact of_E (onlys x0 x1)
theorem lifted6 (os : Os) (started : os.Started) (H : Type) (enc : TypeId × Value → H) :
    ReturnsInHanded {} Tryd.checked os 6 .any (fun w args => (Rows.codeOnlySpec.pre enc Tryd.prog Tryd.f6 [] false w args ∧ laidMetH Tryd.prog [("tronage/code.takes", Rows.laid_tronage_code_takes)] w) ∧ sizedMet enc Tryd.prog Tryd.f6 (OpenSpec.ofChange Rows.codeOnlySpec) false w args)
      (Rows.codeOnlySpec.post enc Tryd.prog Tryd.f6 false true false false) := by
  refine returnsInHanded_of_change_and (C := Tryd.checked) (X := fun w _ => laidMetH Tryd.prog [("tronage/code.takes", Rows.laid_tronage_code_takes)] w) (fun _ _ _ hh h => h.of_heap hh) own started (by kernel_rfl) Tryd.func6
    (ChangeSpec.witness_at (enc := enc) (C := Tryd.checked) (os := os) (X := fun w _ => laidMetH Tryd.prog [("tronage/code.takes", Rows.laid_tronage_code_takes)] w) false (laidWorld os) #[.slice none 0 0, .int .i64 0] 8 rfl (by kernel_rfl) (by kernel_rfl) (by kernel_rfl) (by kernel_rfl) (by kernel_rfl) (laidWorld_met os _)) ?_
  intro W base args ds gs before hval hW _ _ hL _
  refine row_contract progOK laidOut typ4 rfl rfl readable6 typed6 (fun ds h => ?_) all6 W base args ds gs before (globAt hL) hval hW
  rw [show Tryd.f6.params.size = 2 by kernel_rfl] at h
  match ds, h with
  | [d0, d1], _ => rfl
end Go.Am.R
namespace Go.Proofs.YtlndoebddndlmaaDoor
open Go
set_option maxRecDepth 100000
theorem CodeOnly_holds : Rows.CodeOnlySaid :=
  OpenClaim.holds_of_wide 6 Tryd.f6 rfl rfl rfl rfl rfl rfl rfl ⟨rfl, rfl, rfl, rfl, rfl⟩ rfl rfl rfl rfl rfl (by kernel_rfl) Tryd.func6 (by kernel_rfl)
    (of_decide_eq_true (by kernel_rfl)) (by unfold Func.isWrapper; first | (rw [if_pos (by decide +kernel)]; kernel_rfl) | (rw [if_neg (by decide +kernel)]; exact ⟨rfl, rfl⟩))
    (fun os started H enc _ => Go.Am.R.lifted6 os started H enc)
/-- tronagelaw21.CodeOnly answers true whatever its arguments are, and leaves them as they were; the table code.takes is as the text of the program lays it. -/
theorem CodeOnly_card : Rows.CodeOnlyCardSaid :=
  Claim7.holds_tied_plain_at .later [] [.data] true (true, "d2fd10d88e02cacaf935a278ef16f626895351540577dd8f7a92b58813ff20bd") false
    CodeOnly_holds (fun _ h => by cases h) (by kernel_rfl) (fun _ h => by cases h) codeOnly_row_tie rfl ⟨rfl, rfl⟩ (by kernel_rfl) rfl
    (fun f fn hf hfn => by
      obtain rfl : f = 6 := Option.some.inj ((show Tryd.prog.funcNamed "tronage/tronagelaw21.CodeOnly" = some 6 by kernel_rfl).symm.trans hf) |>.symm
      obtain rfl : fn = Tryd.f6 := (Option.some.inj (Tryd.func6.symm.trans hfn)).symm
      exact ⟨by kernel_rfl, fun j t ht => by
        rw [Tryd.params6] at ht
        have hm := Array.mem_of_getElem? ht
        simp only [List.mem_toArray, List.mem_cons, List.not_mem_nil, or_false] at hm
        rcases hm with rfl | rfl
        · exact (show Tryd.prog.wantsStandIn 28 = false by kernel_rfl)
        · exact (show Tryd.prog.wantsStandIn 3 = false by kernel_rfl)⟩)
    (by kernel_rfl)
#print axioms CodeOnly_card
end Go.Proofs.YtlndoebddndlmaaDoor
