/-
  A part of the proof of a law: see the text that states it.
-/
import Derived.Test.YtpbabncglokikaaDoorHead
import Derived.Test.YtpbabncglokikaaDoorAm3
import Derived.Test.YtpbabncglokikaaDoorAm4
import Derived.Test.YtpbabncglokikaaDoorChecked
import Derived.Lib.Strings
import Derived.Lib.Slices
import Derived.Lib.Walk
import Derived.Lib.Bytealg
set_option linter.all false
namespace Go.Proofs
open Go.Am (run_eql_nilS cloneCode cloneAct)
set_option maxHeartbeats 1000000 in
set_option maxRecDepth 100000 in
theorem Tryd.amIndex (s : ByteArray) (c : Int) (w : World) :
    Calls Tryd.prog 48 #[.string s, .int .u8 c] w fun e w' => e = .returned (.int .i64 (Lib.indexByte s.data.toList c.toNat.toUInt8)) ∧ w' = w := by
  go_enter Tryd.func48, Tryd.ntmps48
  go_wp2
  rw [run_callFunc_extern Tryd.func56 (by kernel_rfl) (by kernel_rfl) (by kernel_rfl) (e := Extern.BytealgIndexByte.indexByte) (by kernel_rfl), Lib.run_indexByteString]
  simp only [Result.andThen]
  rw [Oper.upon_value]
  go_wp2
  go_ret
  exact ⟨rfl, rfl⟩
set_option maxHeartbeats 1000000 in
set_option maxRecDepth 100000 in
theorem Tryd.amCount (s : ByteArray) (c : UInt8) (w : World) :
    Calls Tryd.prog 25 #[.string s, .string ⟨#[c]⟩] w fun e w' => e = .returned (.int .i64 (Lib.countByte s.data.toList c)) ∧ w' = w := by
  go_enter Tryd.func25, Tryd.ntmps25
  go_wp2
  rw [run_callFunc_extern Tryd.func45 (by kernel_rfl) (by kernel_rfl) (by kernel_rfl) (e := Extern.BytealgCount.count) (by kernel_rfl), Lib.run_countString]
  simp only [Result.andThen]
  rw [Oper.upon_value]
  go_wp2
  go_ret
  exact ⟨rfl, rfl⟩
set_option maxHeartbeats 1000000 in
set_option maxRecDepth 100000 in
theorem Tryd.amCloneNil (w : World) : Calls Tryd.prog 32 #[.slice none 0 0] w fun e w' => e = .returned (.slice none 0 0) ∧ w' = w := by
  have hu : Tryd.prog.underlying 44 = some (.slice 9) := by kernel_rfl
  go_enter Tryd.func32, Tryd.ntmps32
  go_wp2
  rw [run_eql_nilS hu]
  simp only [Result.andThen]
  rw [Oper.upon_value]
  go_wp2
  go_ret
  exact ⟨rfl, rfl⟩
set_option maxHeartbeats 1000000 in
set_option maxRecDepth 100000 in
theorem Tryd.amCloneSome (a : Addr) (n c : Nat) (w : World) (Q : Ending → World → Prop) (h : (cloneCode 44 "slices.go:362").wp Tryd.prog (bodyPost Tryd.prog Tryd.f32 Q) (cloneAct (.slice (some a) n c)) w) : Calls Tryd.prog 32 #[.slice (some a) n c] w Q := by
  have hu : Tryd.prog.underlying 44 = some (.slice 9) := by kernel_rfl
  go_enter Tryd.func32, Tryd.ntmps32
  go_wp2
  rw [run_eql_nilS hu]
  simp only [Result.andThen]
  rw [Oper.upon_value]
  rename_i K2 h2 K1 h1 K0 h0
  refine h0 _ _ ?_
  refine h1 _ _ ?_
  refine wp_cond (show _ = Value.bool false from rfl) ?_
  simp only [Bool.false_eq_true, if_false]
  refine wp_skip ?_
  refine h2 _ _ ?_
  exact h
end Go.Proofs
