/-
  tronagelaw21.CodeChecks answers true whatever its arguments are, and leaves them as they were; the table code.takes is as the text of the program lays it.
-/
import Derived.Test.YtlndoebddndlmaaDoorI
import Derived.Test.YtlndoebddndlmaaDoorBase
set_option linter.all false
namespace Go.Am.R
open Go Go.Proofs Go.Proofs.YtlndoebddndlmaaDoor
open Go.ChangeShapes Go.WideShapes Go.ChangeAt Go.RowKit
set_option maxRecDepth 100000
theorem readable7 : ∀ t ∈ Tryd.f7.params.toList, Tryd.prog.readableRec t = true ∧ t < Tryd.prog.types.size := by
  rw [Tryd.params7]
  intro t ht
  simp only [List.mem_cons, List.not_mem_nil, or_false] at ht
  rcases ht with rfl | rfl | rfl <;> exact ⟨by kernel_rfl, of_decide_eq_true (by kernel_rfl)⟩
theorem typed7 : ∀ T ∈ Tryd.f7.params.toList, ∃ t, orc.ty T = some t ∧ t.opn = true := by
  rw [Tryd.params7]
  intro t ht
  simp only [List.mem_cons, List.not_mem_nil, or_false] at ht
  rcases ht with rfl | rfl | rfl <;> exact ⟨_, rfl, rfl⟩
theorem all7 (W : World) (vs : List Value) (l : List AV) (h : ArgsAre PP orc W Tryd.f7.params.toList vs l) : ∃ k own h', callF PP orc k 7 l [] = some (.tv own .bool true, h') := by
  rw [Tryd.params7] at h
  obtain ⟨t0, x0, l0, vs0, ht0, rfl, hi0, h0⟩ := h.cons
  obtain ⟨t1, x1, l1, vs1, ht1, rfl, hi1, h1⟩ := h0.cons
  obtain ⟨t2, x2, l2, vs2, ht2, rfl, hi2, h2⟩ := h1.cons
  obtain rfl := h2.nil
  cases ht0
  cases ht1
  cases ht2
  exact of_E (checks' x0 x1 x2 hi2)
theorem lifted7 (os : Os) (started : os.Started) (H : Type) (enc : TypeId × Value → H) :
    ReturnsInHanded {} Tryd.checked os 7 .any (fun w args => (Rows.codeChecksSpec.pre enc Tryd.prog Tryd.f7 [] false w args ∧ laidMetH Tryd.prog [("tronage/code.takes", Rows.laid_tronage_code_takes)] w) ∧ sizedMet enc Tryd.prog Tryd.f7 (OpenSpec.ofChange Rows.codeChecksSpec) false w args)
      (Rows.codeChecksSpec.post enc Tryd.prog Tryd.f7 false true false false) := by
  refine returnsInHanded_of_change_and (C := Tryd.checked) (X := fun w _ => laidMetH Tryd.prog [("tronage/code.takes", Rows.laid_tronage_code_takes)] w) (fun _ _ _ hh h => h.of_heap hh) own started (by kernel_rfl) Tryd.func7
    (ChangeSpec.witness_at (enc := enc) (C := Tryd.checked) (os := os) (X := fun w _ => laidMetH Tryd.prog [("tronage/code.takes", Rows.laid_tronage_code_takes)] w) false (laidWorld os) #[.slice none 0 0, .int .i64 0, .slice none 0 0] 8 rfl (by kernel_rfl) (by kernel_rfl) (by kernel_rfl) (by kernel_rfl) (by kernel_rfl) (laidWorld_met os _)) ?_
  intro W base args ds gs before hval hW _ _ hL _
  refine row_contract progOK laidOut typ4 rfl rfl readable7 typed7 (fun ds h => ?_) all7 W base args ds gs before (globAt hL) hval hW
  rw [show Tryd.f7.params.size = 3 by kernel_rfl] at h
  match ds, h with
  | [d0, d1, d2], _ => rfl
end Go.Am.R
namespace Go.Proofs.YtlndoebddndlmaaDoor
open Go
set_option maxRecDepth 100000
theorem CodeChecks_holds : Rows.CodeChecksSaid :=
  OpenClaim.holds_of_wide 7 Tryd.f7 rfl rfl rfl rfl rfl rfl rfl ⟨rfl, rfl, rfl, rfl, rfl⟩ rfl rfl rfl rfl rfl (by kernel_rfl) Tryd.func7 (by kernel_rfl)
    (of_decide_eq_true (by kernel_rfl)) (by unfold Func.isWrapper; first | (rw [if_pos (by decide +kernel)]; kernel_rfl) | (rw [if_neg (by decide +kernel)]; exact ⟨rfl, rfl⟩))
    (fun os started H enc _ => Go.Am.R.lifted7 os started H enc)
/-- tronagelaw21.CodeChecks answers true whatever its arguments are, and leaves them as they were; the table code.takes is as the text of the program lays it. -/
theorem CodeChecks_card : Rows.CodeChecksCardSaid :=
  Claim7.holds_tied_plain_at .later [] [.data] true (true, "d2fd10d88e02cacaf935a278ef16f626895351540577dd8f7a92b58813ff20bd") false
    CodeChecks_holds (fun _ h => by cases h) (by kernel_rfl) (fun _ h => by cases h) codeChecks_row_tie rfl ⟨rfl, rfl⟩ (by kernel_rfl) rfl
    (fun f fn hf hfn => by
      obtain rfl : f = 7 := Option.some.inj ((show Tryd.prog.funcNamed "tronage/tronagelaw21.CodeChecks" = some 7 by kernel_rfl).symm.trans hf) |>.symm
      obtain rfl : fn = Tryd.f7 := (Option.some.inj (Tryd.func7.symm.trans hfn)).symm
      exact ⟨by kernel_rfl, fun j t ht => by
        rw [Tryd.params7] at ht
        have hm := Array.mem_of_getElem? ht
        simp only [List.mem_toArray, List.mem_cons, List.not_mem_nil, or_false] at hm
        rcases hm with rfl | rfl | rfl
        · exact (show Tryd.prog.wantsStandIn 28 = false by kernel_rfl)
        · exact (show Tryd.prog.wantsStandIn 3 = false by kernel_rfl)
        · exact (show Tryd.prog.wantsStandIn 44 = false by kernel_rfl)⟩)
    (by kernel_rfl)
#print axioms CodeChecks_card
end Go.Proofs.YtlndoebddndlmaaDoor
