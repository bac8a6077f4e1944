/-
  tronagelaw18.TreeOwn answers true whatever its arguments are, and leaves them as they were.
-/
import Derived.Test.YtgfkdbplahpknaaOwn
import Derived.Test.YtgfkdbplahpknaaBase
set_option linter.all false
namespace Go.Am.T
open Go Go.Proofs Go.Proofs.Ytgfkdbplahpknaa
open Go.ChangeShapes Go.WideShapes Go.ChangeAt Go.RowKit
set_option maxRecDepth 100000
theorem readable3 : ∀ t ∈ Try.f3.params.toList, Try.prog.readableRec t = true ∧ t < Try.prog.types.size := by
 rw [Try.params3]
 intro t ht
 simp only [List.mem_cons, List.not_mem_nil, or_false] at ht
 rcases ht with rfl | rfl | rfl | rfl <;> exact ⟨by kernel_rfl, of_decide_eq_true (by kernel_rfl)⟩
theorem typed3 : ∀ T ∈ Try.f3.params.toList, ∃ t, orc.ty T = some t ∧ t.opn = true := by
 rw [Try.params3]
 intro t ht
 simp only [List.mem_cons, List.not_mem_nil, or_false] at ht
 rcases ht with rfl | rfl | rfl | rfl <;> exact ⟨_, rfl, rfl⟩
theorem all3 (W : World) (vs : List Value) (l : List AV) (h : ArgsAre PP orc W Try.f3.params.toList vs l) : ∃ k own h', callF PP orc k 3 l [] = some (.tv own .bool true, h') := by
 rw [Try.params3] at h
 obtain ⟨t0, x0, l0, vs0, ht0, rfl, hi0, h0⟩ := h.cons
 obtain ⟨t1, x1, l1, vs1, ht1, rfl, hi1, h1⟩ := h0.cons
 obtain ⟨t2, x2, l2, vs2, ht2, rfl, hi2, h2⟩ := h1.cons
 obtain ⟨t3, x3, l3, vs3, ht3, rfl, hi3, h3⟩ := h2.cons
 obtain rfl := h3.nil
 cases ht0
 cases ht1
 cases ht2
 cases ht3
 exact of_E (own_law x0 x1 x2 x3)
theorem lifted3 (os : Os) (started : os.Started) (H : Type) (enc : TypeId × Value → H) :
  ReturnsInHanded {} Try.checked os 3 .any (Rows.treeOwnSpec.pre6 enc Try.prog Try.f3 Rows.treeOwnRow.domain false) (Rows.treeOwnSpec.post enc Try.prog Try.f3 false true false false) := by
 refine returnsInHanded_of_change (C := Try.checked) own started (by kernel_rfl) Try.func3
  (ChangeSpec.witness6 (enc := enc) (C := Try.checked) false ⟨#[], #[.agg #[.int .i64 0, .int .i64 0, .int .i64 0], .agg #[.int .i64 0, .int .i64 0, .int .i64 0], .int .i64 0, .int .i64 0], []⟩ 8 (by kernel_rfl) (by kernel_rfl) (by kernel_rfl) (by kernel_rfl)) ?_
 intro W base args ds gs before hval hW _ _
 refine row_contract progOK laidOut typ4 rfl rfl readable3 typed3 (fun ds h => ?_) all3 W base args ds gs before globAt hval hW
 rw [show Try.f3.params.size = 4 by kernel_rfl] at h
 match ds, h with
 | [d0, d1, d2, d3], _ => rfl
end Go.Am.T
namespace Go.Proofs.Ytgfkdbplahpknaa
open Go
set_option maxRecDepth 100000
theorem TreeOwn_holds : Rows.TreeOwnSaid :=
 OpenClaim.holds_of_wide 3 Try.f3 rfl rfl rfl rfl rfl rfl rfl ⟨rfl, rfl, rfl, rfl, rfl⟩ rfl rfl rfl rfl rfl (by kernel_rfl) Try.func3 (by kernel_rfl)
  (of_decide_eq_true (by kernel_rfl)) (by unfold Func.isWrapper; first | (rw [if_pos (by decide +kernel)]; kernel_rfl) | (rw [if_neg (by decide +kernel)]; exact ⟨rfl, rfl⟩))
  (fun os started H enc _ => Go.Am.T.lifted3 os started H enc)
#print axioms TreeOwn_holds
end Go.Proofs.Ytgfkdbplahpknaa
