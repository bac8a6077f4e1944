/-
  tronagelaw18.TreeRight answers true whatever its arguments are, and leaves them as they were.
-/
import Derived.Test.YtgfkdbplahpknaaTreeRight
import Derived.Test.YtgfkdbplahpknaaBase
set_option linter.all false
namespace Go.Am.T
open Go Go.Proofs Go.Proofs.Ytgfkdbplahpknaa
open Go.ChangeShapes Go.WideShapes Go.ChangeAt Go.RowKit
set_option maxRecDepth 100000
theorem readable5 : ∀ t ∈ Try.f5.params.toList, Try.prog.readableRec t = true ∧ t < Try.prog.types.size := by
 rw [Try.params5]
 intro t ht
 simp only [List.mem_cons, List.not_mem_nil, or_false] at ht
 rcases ht with rfl | rfl <;> exact ⟨by kernel_rfl, of_decide_eq_true (by kernel_rfl)⟩
theorem typed5 : ∀ T ∈ Try.f5.params.toList, ∃ t, orc.ty T = some t ∧ t.opn = true := by
 rw [Try.params5]
 intro t ht
 simp only [List.mem_cons, List.not_mem_nil, or_false] at ht
 rcases ht with rfl | rfl <;> exact ⟨_, rfl, rfl⟩
theorem all5 (W : World) (vs : List Value) (l : List AV) (h : ArgsAre PP orc W Try.f5.params.toList vs l) : ∃ k own h', callF PP orc k 5 l [] = some (.tv own .bool true, h') := by
 rw [Try.params5] at h
 obtain ⟨t0, x0, l0, vs0, ht0, rfl, hi0, h0⟩ := h.cons
 obtain ⟨t1, x1, l1, vs1, ht1, rfl, hi1, h1⟩ := h0.cons
 obtain rfl := h1.nil
 cases ht0
 cases ht1
 exact of_E (right_law x0 x1 hi0 hi1)
theorem lifted5 (os : Os) (started : os.Started) (H : Type) (enc : TypeId × Value → H) :
  ReturnsInHanded {} Try.checked os 5 .any (Rows.treeRightSpec.pre6 enc Try.prog Try.f5 Rows.treeRightRow.domain false) (Rows.treeRightSpec.post enc Try.prog Try.f5 false true false false) := by
 refine returnsInHanded_of_change (C := Try.checked) own started (by kernel_rfl) Try.func5
  (ChangeSpec.witness6 (enc := enc) (C := Try.checked) false ⟨#[], #[.agg #[.int .u8 0, .int .u8 0, .slice none 0 0, .slice none 0 0, .slice none 0 0, .slice none 0 0, .slice none 0 0], .slice none 0 0], []⟩ 8 (by kernel_rfl) (by kernel_rfl) (by kernel_rfl) (by kernel_rfl)) ?_
 intro W base args ds gs before hval hW _ _
 refine row_contract progOK laidOut typ4 rfl rfl readable5 typed5 (fun ds h => ?_) all5 W base args ds gs before globAt hval hW
 rw [show Try.f5.params.size = 2 by kernel_rfl] at h
 match ds, h with
 | [d0, d1], _ => rfl
end Go.Am.T
namespace Go.Proofs.Ytgfkdbplahpknaa
open Go
set_option maxRecDepth 100000
theorem TreeRight_holds : Rows.TreeRightSaid :=
 OpenClaim.holds_of_wide 5 Try.f5 rfl rfl rfl rfl rfl rfl rfl ⟨rfl, rfl, rfl, rfl, rfl⟩ rfl rfl rfl rfl rfl (by kernel_rfl) Try.func5 (by kernel_rfl)
  (of_decide_eq_true (by kernel_rfl)) (by unfold Func.isWrapper; first | (rw [if_pos (by decide +kernel)]; kernel_rfl) | (rw [if_neg (by decide +kernel)]; exact ⟨rfl, rfl⟩))
  (fun os started H enc _ => Go.Am.T.lifted5 os started H enc)
#print axioms TreeRight_holds
end Go.Proofs.Ytgfkdbplahpknaa
