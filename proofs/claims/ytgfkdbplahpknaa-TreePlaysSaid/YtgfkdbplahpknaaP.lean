/-
  A part of the proof of a law: see the text that states it.
-/
import Derived.Test.YtgfkdbplahpknaaHead
import Derived.Test.YtgfkdbplahpknaaShelf
import Derived.Test.YtgfkdbplahpknaaAm4
import Derived.Test.YtgfkdbplahpknaaChecked
import Derived.Lib.Walk
set_option linter.all false
namespace Go.Proofs
open Go.Am (run_eql_nilS cloneCode cloneAct)
set_option maxHeartbeats 1000000 in
set_option maxRecDepth 100000 in
theorem Try.amCloneNil (w : World) : Calls Try.prog 47 #[.slice none 0 0] w fun e w' => e = .returned (.slice none 0 0) ∧ w' = w := by
 have hu : Try.prog.underlying 32 = some (.slice 3) := by kernel_rfl
 go_enter Try.func47, Try.ntmps47
 go_wp2
 rw [run_eql_nilS hu]
 simp only [Result.andThen]
 rw [Oper.upon_value]
 go_wp2
 go_ret
 exact ⟨rfl, rfl⟩
set_option maxRecDepth 100000 in
theorem Try.amCloneSome (a : Addr) (n c : Nat) (w : World) (Q : Ending → World → Prop) (h : (cloneCode 32 "slices.go:362").wp Try.prog (bodyPost Try.prog Try.f47 Q) (cloneAct (.slice (some a) n c)) w) : Calls Try.prog 47 #[.slice (some a) n c] w Q := by
 have hu : Try.prog.underlying 32 = some (.slice 3) := by kernel_rfl
 go_enter Try.func47, Try.ntmps47
 go_wp2
 rw [run_eql_nilS hu]
 simp only [Result.andThen]
 rw [Oper.upon_value]
 rename_i K2 h2 K1 h1 K0 h0
 refine h0 _ _ ?_
 refine h1 _ _ ?_
 refine wp_cond (show _ = Value.bool false from rfl) ?_
 simp only [Bool.false_eq_true, if_false]
 refine wp_skip ?_
 refine h2 _ _ ?_
 exact h
end Go.Proofs
namespace Go.Am.T
open Go Go.Am.Pr Go.Proofs
set_option maxRecDepth 100000
theorem prim47 (hO : OrcOK PP orc) (args : List AV) (r : AV) (hg : clonePrim (.int .i64) args = some r) : hasBody PP 47 ∧ ∀ (FB : Nat → Nat → Prop) (w : World) (h : Heap) (ι : Key → Nat) (vs : Array Value), args.length = vs.size → Rel orc FB w ⟨args, h⟩ (tmArgs vs) ι →
  Calls PP 47 vs w fun e w' => ∃ v ι', e = .returned v ∧ Goes orc FB w ⟨args, h⟩ (tmArgs vs) ι w' ⟨[r], h⟩ (fun _ => v) ι' := by
 have hb : hasBody PP 47 := ⟨Try.f47, Try.func47, by kernel_rfl, by kernel_rfl⟩
 obtain ⟨own, l, rfl, hl, rfl⟩ := clonePrim_some hg
 refine ⟨hb, fun FB w h ι vs hvs H => ?_⟩
 exact clone_ok (fn := Try.f47) (T := 32) (p := "slices.go:362") hO (by kernel_rfl) ⟨⟨by kernel_rfl, by kernel_rfl, by kernel_rfl⟩, fun i => rfl⟩ rfl rfl hb Try.amCloneNil Try.amCloneSome hl FB w h ι vs hvs H
theorem prim62 (args : List AV) (r : AV) (hg : joinPrim args = some r) : hasBody PP 62 ∧ ∀ (FB : Nat → Nat → Prop) (w : World) (h : Heap) (ι : Key → Nat) (vs : Array Value), args.length = vs.size → Rel orc FB w ⟨args, h⟩ (tmArgs vs) ι →
  Calls PP 62 vs w fun e w' => ∃ v ι', e = .returned v ∧ Goes orc FB w ⟨args, h⟩ (tmArgs vs) ι w' ⟨[r], h⟩ (fun _ => v) ι' :=
 join_ok ⟨Try.f62, Try.func62, by kernel_rfl, by kernel_rfl⟩ Try.strings_Join_none Try.strings_Join args r hg
end Go.Am.T
