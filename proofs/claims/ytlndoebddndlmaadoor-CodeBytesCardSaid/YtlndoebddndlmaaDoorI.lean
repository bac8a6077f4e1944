/-
  A part of the proof of a law: see the text that states it.
-/
import Derived.Test.YtlndoebddndlmaaDoorH
import Derived.Test.YtlndoebddndlmaaDoorAm3
set_option linter.all false
namespace Go.Am.R
open Go
theorem u8_wf {x : Int} (h : (Lit.int .u8 x).wf = true) : 0 ≤ x ∧ x < 256 := by
  simp only [Lit.wf, Bool.and_eq_true, decide_eq_true_eq] at h
  have e1 : IntKind.min .u8 = 0 := rfl
  have e2 : IntKind.max .u8 = 255 := rfl
  omega
theorem i64_wf {x : Int} (h : (Lit.int .i64 x).wf = true) : -9223372036854775808 ≤ x ∧ x ≤ 9223372036854775807 := by
  simp only [Lit.wf, Bool.and_eq_true, decide_eq_true_eq] at h
  have e1 : IntKind.min .i64 = -9223372036854775808 := rfl
  have e2 : IntKind.max .i64 = 9223372036854775807 := rfl
  omega
theorem byts_of {b : List Int} (h : InR (.slice (.int .u8)) b) : Byts b := by
  intro z hz
  obtain ⟨i, hi, rfl⟩ := List.mem_iff_getElem.1 hz
  have := h.2 i hi
  rw [List.getD_eq_getElem?_getD, List.getElem?_eq_getElem hi, Option.getD_some] at this
  exact u8_wf this
theorem rng_of {l : List Op2} (h : InR (.slice tOp) l) : ∀ x ∈ l, -9223372036854775808 ≤ x.2.1 ∧ x.2.1 ≤ 9223372036854775807 := by
  intro x hx
  obtain ⟨i, hi, rfl⟩ := List.mem_iff_getElem.1 hx
  have := h.2 i hi
  rw [List.getD_eq_getElem?_getD, List.getElem?_eq_getElem hi, Option.getD_some] at this
  exact i64_wf this.2.1
theorem checks' (l : List Op2) (arity : Int) (b : List Int) (h : InR (.slice (.int .u8)) b) : E 7 [.tv [] (.slice tOp) l, .tv [] (.int .i64) arity, .tv [] (.slice (.int .u8)) b] [] (.tv [] .bool true) [] := checks l arity b (byts_of h)
theorem bytess' (l : List Op2) (b : List Int) (hl : InR (.slice tOp) l) (h : InR (.slice (.int .u8)) b) : E 8 [.tv [] (.slice tOp) l, .tv [] (.slice (.int .u8)) b] [] (.tv [] .bool true) [] := bytess l b (byts_of h) (rng_of hl)
end Go.Am.R
