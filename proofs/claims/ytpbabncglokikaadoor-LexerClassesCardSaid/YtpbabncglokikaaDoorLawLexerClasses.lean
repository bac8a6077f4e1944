/-
  tronagelaw05.LexerClasses answers true whatever its arguments are, and leaves them as they were; the tables lexer.words and lexer.escapes are as the text of the program lays them.
-/
import Derived.Test.YtpbabncglokikaaDoorNC
import Derived.Test.YtpbabncglokikaaDoorBase
set_option linter.all false
namespace Go.Am.L
open Go Go.Proofs Go.Proofs.YtpbabncglokikaaDoor
open Go.ChangeShapes Go.WideShapes Go.ChangeAt Go.RowKit
set_option maxRecDepth 100000
theorem readable8 : ∀ t ∈ Tryd.f8.params.toList, Tryd.prog.readableRec t = true ∧ t < Tryd.prog.types.size := by
  rw [Tryd.params8]
  intro t ht
  simp only [List.mem_cons, List.not_mem_nil, or_false] at ht
  rcases ht with rfl | rfl | rfl <;> exact ⟨by kernel_rfl, of_decide_eq_true (by kernel_rfl)⟩
theorem typed8 : ∀ T ∈ Tryd.f8.params.toList, ∃ t, orc.ty T = some t ∧ t.noRef = true := by
  rw [Tryd.params8]
  intro t ht
  simp only [List.mem_cons, List.not_mem_nil, or_false] at ht
  rcases ht with rfl | rfl | rfl <;> exact ⟨_, rfl, rfl⟩
theorem all8 (W : World) (vs : List Value) (l : List AV) (h : ArgsAre PP orc W Tryd.f8.params.toList vs l) : ∃ k own h', callF PP orc k 8 l [] = some (.tv own .bool true, h') := by
  rw [Tryd.params8] at h
  obtain ⟨t0, x0, l0, vs0, ht0, rfl, hi0, h0⟩ := h.cons
  obtain ⟨t1, x1, l1, vs1, ht1, rfl, hi1, h1⟩ := h0.cons
  obtain ⟨t2, x2, l2, vs2, ht2, rfl, hi2, h2⟩ := h1.cons
  obtain rfl := h2.nil
  cases ht0
  cases ht1
  cases ht2
  exact of_E (classes x0 x1 x2 hi0 hi1 hi2.2)
theorem lifted8 (os : Os) (started : os.Started) (H : Type) (enc : TypeId × Value → H) :
    ReturnsInHanded {} Tryd.checked os 8 .any (fun w args => (Rows.lexerClassesSpec.pre enc Tryd.prog Tryd.f8 [] false w args ∧ laidMetH Tryd.prog [("tronage/lexer.words", Rows.laid_tronage_lexer_words), ("tronage/lexer.escapes", Rows.laid_tronage_lexer_escapes)] w) ∧ sizedMet enc Tryd.prog Tryd.f8 (OpenSpec.ofChange Rows.lexerClassesSpec) false w args)
      (Rows.lexerClassesSpec.post enc Tryd.prog Tryd.f8 false true false false) := by
  refine returnsInHanded_of_change_and (C := Tryd.checked) (X := fun w _ => laidMetH Tryd.prog [("tronage/lexer.words", Rows.laid_tronage_lexer_words), ("tronage/lexer.escapes", Rows.laid_tronage_lexer_escapes)] w) (fun _ _ _ hh h => h.of_heap hh) own started (by kernel_rfl) Tryd.func8
    (ChangeSpec.witness_at (enc := enc) (C := Tryd.checked) (os := os) (X := fun w _ => laidMetH Tryd.prog [("tronage/lexer.words", Rows.laid_tronage_lexer_words), ("tronage/lexer.escapes", Rows.laid_tronage_lexer_escapes)] w) false (laidWorld os) #[.int .u8 0, .int .u8 0, .slice none 0 0] 8 rfl (by kernel_rfl) (by kernel_rfl) (by kernel_rfl) (by kernel_rfl) (by kernel_rfl) (laidWorld_met os _)) ?_
  intro W base args ds gs before hval hW _ _ hL _
  refine row_contract progOK laidOut typ4 rfl rfl readable8 typed8 (fun ds h => ?_) all8 W base args ds gs before (globAt hL) hval hW
  rw [show Tryd.f8.params.size = 3 by kernel_rfl] at h
  match ds, h with
  | [d0, d1, d2], _ => rfl
end Go.Am.L
namespace Go.Proofs.YtpbabncglokikaaDoor
open Go
set_option maxRecDepth 100000
theorem LexerClasses_holds : Rows.LexerClassesSaid :=
  OpenClaim.holds_of_wide 8 Tryd.f8 rfl rfl rfl rfl rfl rfl rfl ⟨rfl, rfl, rfl, rfl, rfl⟩ rfl rfl rfl rfl rfl (by kernel_rfl) Tryd.func8 (by kernel_rfl)
    (of_decide_eq_true (by kernel_rfl)) (by unfold Func.isWrapper; first | (rw [if_pos (by decide +kernel)]; kernel_rfl) | (rw [if_neg (by decide +kernel)]; exact ⟨rfl, rfl⟩))
    (fun os started H enc _ => Go.Am.L.lifted8 os started H enc)
/-- tronagelaw05.LexerClasses answers true whatever its arguments are, and leaves them as they were; the tables lexer.words and lexer.escapes are as the text of the program lays them. -/
theorem LexerClasses_card : Rows.LexerClassesCardSaid :=
  Claim7.holds_tied_plain_at .later [] [.widerDeep, .data] true (true, "d107c18695b5f64801ae50cc72e91e77a6dbb6f18b3f51b6d76375f2cf35bbec") false
    LexerClasses_holds (fun _ h => by cases h) (by kernel_rfl) (fun _ h => by cases h) lexerClasses_row_tie rfl ⟨rfl, rfl⟩ (by kernel_rfl) rfl
    (fun f fn hf hfn => by
      obtain rfl : f = 8 := Option.some.inj ((show Tryd.prog.funcNamed "tronage/tronagelaw05.LexerClasses" = some 8 by kernel_rfl).symm.trans hf) |>.symm
      obtain rfl : fn = Tryd.f8 := (Option.some.inj (Tryd.func8.symm.trans hfn)).symm
      exact ⟨by kernel_rfl, fun j t ht => by
        rw [Tryd.params8] at ht
        have hm := Array.mem_of_getElem? ht
        simp only [List.mem_toArray, List.mem_cons, List.not_mem_nil, or_false] at hm
        rcases hm with rfl | rfl | rfl
        · exact (show Tryd.prog.wantsStandIn 5 = false by kernel_rfl)
        · exact (show Tryd.prog.wantsStandIn 5 = false by kernel_rfl)
        · exact (show Tryd.prog.wantsStandIn 39 = false by kernel_rfl)⟩)
    (by kernel_rfl)
#print axioms LexerClasses_card
end Go.Proofs.YtpbabncglokikaaDoor
