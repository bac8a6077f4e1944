/-
  tronagelaw22.EvalOps answers true whatever its arguments are, and leaves them as they were; the tables code.takes, utf8.first and utf8.acceptRanges are as the text of the program lays them.
-/
import Derived.Test.YtfnnapgpcndcjaaDoorL5
import Derived.Test.YtfnnapgpcndcjaaDoorBase
set_option linter.all false
namespace Go.Am.V
open Go Go.Proofs Go.Proofs.YtfnnapgpcndcjaaDoor
open Go.ChangeShapes Go.WideShapes Go.ChangeAt Go.RowKit
set_option maxRecDepth 100000
theorem readable5 : ∀ t ∈ Tryd.f5.params.toList, Tryd.prog.readableRec t = true ∧ t < Tryd.prog.types.size := by
  rw [Tryd.params5]
  intro t ht
  simp only [List.mem_cons, List.not_mem_nil, or_false] at ht
  rcases ht with rfl | rfl | rfl <;> exact ⟨by kernel_rfl, of_decide_eq_true (by kernel_rfl)⟩
theorem typed5 : ∀ T ∈ Tryd.f5.params.toList, ∃ t, orc.ty T = some t ∧ t.opn = true := by
  rw [Tryd.params5]
  intro t ht
  simp only [List.mem_cons, List.not_mem_nil, or_false] at ht
  rcases ht with rfl | rfl | rfl <;> exact ⟨_, rfl, rfl⟩
theorem all5 (W : World) (vs : List Value) (l : List AV) (h : ArgsAre PP orc W Tryd.f5.params.toList vs l) : ∃ k own h', callF PP orc k 5 l [] = some (.tv own .bool true, h') := by
  rw [Tryd.params5] at h
  obtain ⟨t0, x0, l0, vs0, ht0, rfl, hi0, h0⟩ := h.cons
  obtain ⟨t1, x1, l1, vs1, ht1, rfl, hi1, h1⟩ := h0.cons
  obtain ⟨t2, x2, l2, vs2, ht2, rfl, hi2, h2⟩ := h1.cons
  obtain rfl := h2.nil
  cases ht0
  cases ht1
  cases ht2
  exact of_E (ops x0 x1 x2)
theorem lifted5 (os : Os) (started : os.Started) (H : Type) (enc : TypeId × Value → H) :
    ReturnsInHanded {} Tryd.checked os 5 .any (fun w args => (Rows.evalOpsSpec.pre enc Tryd.prog Tryd.f5 [] false w args ∧ laidMetH Tryd.prog [("unicode/utf8.acceptRanges", Rows.laid_unicode_utf8_acceptRanges), ("tronage/code.takes", Rows.laid_tronage_code_takes), ("unicode/utf8.first", Rows.laid_unicode_utf8_first)] w) ∧ sizedMet enc Tryd.prog Tryd.f5 (OpenSpec.ofChange Rows.evalOpsSpec) false w args)
      (Rows.evalOpsSpec.post enc Tryd.prog Tryd.f5 false true false false) := by
  refine returnsInHanded_of_change_and (C := Tryd.checked) (X := fun w _ => laidMetH Tryd.prog [("unicode/utf8.acceptRanges", Rows.laid_unicode_utf8_acceptRanges), ("tronage/code.takes", Rows.laid_tronage_code_takes), ("unicode/utf8.first", Rows.laid_unicode_utf8_first)] w) (fun _ _ _ hh h => h.of_heap hh) own started (by kernel_rfl) Tryd.func5
    (ChangeSpec.witness_at (enc := enc) (C := Tryd.checked) (os := os) (X := fun w _ => laidMetH Tryd.prog [("unicode/utf8.acceptRanges", Rows.laid_unicode_utf8_acceptRanges), ("tronage/code.takes", Rows.laid_tronage_code_takes), ("unicode/utf8.first", Rows.laid_unicode_utf8_first)] w) false (laidWorld os) #[.slice none 0 0, .slice none 0 0, .slice none 0 0] 8 rfl (by kernel_rfl) (by kernel_rfl) (by kernel_rfl) (by kernel_rfl) (by kernel_rfl) (laidWorld_met os _)) ?_
  intro W base args ds gs before hval hW _ _ hL _
  refine row_contract progOK laidOut typ4 rfl rfl readable5 typed5 (fun ds h => ?_) all5 W base args ds gs before (globAt hL) hval hW
  rw [show Tryd.f5.params.size = 3 by kernel_rfl] at h
  match ds, h with
  | [d0, d1, d2], _ => rfl
end Go.Am.V
namespace Go.Proofs.YtfnnapgpcndcjaaDoor
open Go
set_option maxRecDepth 100000
theorem EvalOps_holds : Rows.EvalOpsSaid :=
  OpenClaim.holds_of_wide 5 Tryd.f5 rfl rfl rfl rfl rfl rfl rfl ⟨rfl, rfl, rfl, rfl, rfl⟩ rfl rfl rfl rfl rfl (by kernel_rfl) Tryd.func5 (by kernel_rfl)
    (of_decide_eq_true (by kernel_rfl)) (by unfold Func.isWrapper; first | (rw [if_pos (by decide +kernel)]; kernel_rfl) | (rw [if_neg (by decide +kernel)]; exact ⟨rfl, rfl⟩))
    (fun os started H enc _ => Go.Am.V.lifted5 os started H enc)
/-- tronagelaw22.EvalOps answers true whatever its arguments are, and leaves them as they were; the tables code.takes, utf8.first and utf8.acceptRanges are as the text of the program lays them. -/
theorem EvalOps_card : Rows.EvalOpsCardSaid :=
  Claim7.holds_tied_plain_at .later [] [.data, .data, .pinned] true (true, "51adac0c7cf940f56a95a7fcca172134ffc30d4bdec24610f13c5f292f129fc6") false
    EvalOps_holds (fun _ h => by cases h) (by kernel_rfl) (fun _ h => by cases h) evalOps_row_tie rfl ⟨rfl, rfl⟩ (by kernel_rfl) rfl
    (fun f fn hf hfn => by
      obtain rfl : f = 5 := Option.some.inj ((show Tryd.prog.funcNamed "tronage/tronagelaw22.EvalOps" = some 5 by kernel_rfl).symm.trans hf) |>.symm
      obtain rfl : fn = Tryd.f5 := (Option.some.inj (Tryd.func5.symm.trans hfn)).symm
      exact ⟨by kernel_rfl, fun j t ht => by
        rw [Tryd.params5] at ht
        have hm := Array.mem_of_getElem? ht
        simp only [List.mem_toArray, List.mem_cons, List.not_mem_nil, or_false] at hm
        rcases hm with rfl | rfl | rfl
        · exact (show Tryd.prog.wantsStandIn 34 = false by kernel_rfl)
        · exact (show Tryd.prog.wantsStandIn 30 = false by kernel_rfl)
        · exact (show Tryd.prog.wantsStandIn 31 = false by kernel_rfl)⟩)
    (by kernel_rfl)
#print axioms EvalOps_card
end Go.Proofs.YtfnnapgpcndcjaaDoor
