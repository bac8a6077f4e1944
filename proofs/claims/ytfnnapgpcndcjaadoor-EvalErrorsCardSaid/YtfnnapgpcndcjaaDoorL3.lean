/-
  A part of the proof of a law: see the text that states it.
-/
import Derived.Test.YtfnnapgpcndcjaaDoorE
import Derived.Test.YtfnnapgpcndcjaaDoorVc6
import Derived.Test.YtfnnapgpcndcjaaDoorAm3
set_option linter.all false
namespace Go.Am.V
open Go
set_option maxRecDepth 100000
theorem leaves (x : List Int) (hi : InR .str x) : E 3 [.tv [] .str x] [] (.tv [] .bool true) [] := by
  refine ev_of (vc3 x _ ⟨_, ⟨awake_ev⟩, fun _ => ⟨rfl, rfl⟩, fun h => ⟨fun _ => ?_, fun h => by cases h⟩⟩)
  (simp only [decide_eq_true_eq, decide_eq_false_iff_not, Bool.not_eq_true', Bool.not_eq_false'] at h)
  have h1 := leaf_ev x hi.2 (by omega)
  have h2 := rleaf_ev x hi.2 (by omega)
  generalize leafK x = y at h1 h2
  obtain ⟨y1, y2, ⟨⟩⟩ := y
  exact ⟨_, _, ⟨h1⟩, _, _, ⟨h2⟩, by simp⟩
theorem in64_of {n : Int} (h : InR (.int .i64) n) : In64 n := i64_wf h
theorem means (x : XT) (vals : List Val) (nodes : List Int) (hv : InR (.slice tV) vals) (hn : InR (.slice (.int .i64)) nodes) : E 4 [.tv [] .expr x, .tv [] (.slice tV) vals, .tv [] (.slice (.int .i64)) nodes] [] (.tv [] .bool true) [] := by
  refine ev_of (vc4 x vals nodes _ ⟨_, ⟨awake_ev⟩, _, ⟨few_ev x 60 30 (by omega) (by omega) (by omega) (by omega)⟩, fun _ => ⟨rfl, rfl⟩, fun h => ⟨fun _ => ⟨rfl, rfl⟩, fun h2 => ⟨fun _ => ⟨rfl, rfl⟩, fun h3 => ⟨fun _ => ?_, fun h => by cases h⟩⟩⟩⟩)
  (simp only [decide_eq_true_eq, decide_eq_false_iff_not, Bool.not_eq_true', Bool.not_eq_false'] at h); (simp only [decide_eq_true_eq, decide_eq_false_iff_not, Bool.not_eq_true', Bool.not_eq_false'] at h2); (simp only [decide_eq_true_eq, decide_eq_false_iff_not, Bool.not_eq_true', Bool.not_eq_false'] at h3)
  have hs := few_size x 60 30 (by omega)
  have hc := comp_len x
  have h1 := run_ev (comp x) vals nodes (by omega) (by omega)
  have h2 := rmean_ev x vals nodes (by omega) (fun v hm => by
    obtain ⟨i, hi, rfl⟩ := List.mem_iff_getElem.1 hm
    have := hv.2 i hi
    rw [List.getD_eq_getElem?_getD, List.getElem?_eq_getElem hi] at this
    exact in64_of this.2.1) (fun n hm => by
    obtain ⟨i, hi, rfl⟩ := List.mem_iff_getElem.1 hm
    have := hn.2 i hi
    rw [List.getD_eq_getElem?_getD, List.getElem?_eq_getElem hi] at this
    exact in64_of this)
  generalize runK (comp x) vals nodes = y at h1 h2
  obtain ⟨y1, y2, ⟨⟩⟩ := y
  exact ⟨_, ⟨rcomp_ev x (by omega)⟩, _, _, ⟨h1⟩, _, _, ⟨h2⟩, by simp⟩
end Go.Am.V
