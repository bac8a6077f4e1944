/-
  A part of the proof of a law: see the text that states it.
-/
import Derived.Shelf.Strings.OnBuilder
import Derived.Test.YtgfkdbplahpknaaProg
set_option linter.all false
namespace Go.Proofs
open Go.Shelf
set_option linter.all false
def Try.lays156_ren : Go.Shelf.Ren := ⟨fun | 156 => 62 | 165 => 78 | 166 => 79 | 169 => 80 | 240 => 86 | 241 => 87 | 276 => 89 | 277 => 90 | n => n, fun | 31 => 49 | 9 => 9 | 3 => 3 | 4 => 4 | 0 => 0 | 20 => 20 | 72 => 130 | 76 => 134 | 70 => 128 | 37 => 39 | 75 => 133 | 127 => 140 | 164 => 141 | 5 => 5 | 80 => 136 | n => n, fun | n => n⟩
theorem Try.lays156 : Go.Proofs.Lays.n156 Try.prog Try.lays156_ren := {
 mixed := by kernel_rfl
 f156 := Try.func62.trans (congrArg some (by kernel_rfl))
 f165 := Try.func78.trans (congrArg some (by kernel_rfl))
 f166 := Try.func79.trans (congrArg some (by kernel_rfl))
 f169 := Try.func80.trans (congrArg some (by kernel_rfl))
 f240 := Try.func86.trans (congrArg some (by kernel_rfl))
 f241 := Try.func87.trans (congrArg some (by kernel_rfl))
 f276 := Try.func89.trans (congrArg some (by kernel_rfl))
 f277 := Try.func90.trans (congrArg some (by kernel_rfl))
 t0 := Try.underlying0
 a0 := Try.isAgg0
 z0 := Try.sizeOf0
 v0 := Try.zeroValue0
 t3 := Try.underlying3
 a3 := Try.isAgg3
 z3 := Try.sizeOf3
 v3 := Try.zeroValue3
 t4 := Try.underlying4
 a4 := Try.isAgg4
 z4 := Try.sizeOf4
 v4 := Try.zeroValue4
 t9 := Try.underlying9
 a9 := Try.isAgg9
 z9 := Try.sizeOf9
 v9 := Try.zeroValue9
 t20 := Try.underlying20
 a20 := Try.isAgg20
 z20 := Try.sizeOf20
 v20 := Try.zeroValue20
 t31 := Try.underlying49
 a31 := Try.isAgg49
 z31 := Try.sizeOf49
 v31 := Try.zeroValue49
 t37 := Try.underlying39
 a37 := Try.isAgg39
 z37 := Try.sizeOf39
 v37 := Try.zeroValue39
 t70 := Try.underlying128
 a70 := Try.isAgg128
 z70 := Try.sizeOf128
 v70 := Try.zeroValue128
 t72 := Try.underlying130
 a72 := Try.isAgg130
 z72 := Try.sizeOf130
 v72 := Try.zeroValue130
 t75 := Try.underlying133
 a75 := Try.isAgg133
 z75 := Try.sizeOf133
 v75 := Try.zeroValue133
 t76 := Try.underlying134
 a76 := Try.isAgg134
 z76 := Try.sizeOf134
 v76 := Try.zeroValue134
 t127 := Try.underlying140
 a127 := Try.isAgg140
 z127 := Try.sizeOf140
 v127 := Try.zeroValue140
 t164 := Try.underlying141
 a164 := Try.isAgg141
 z164 := Try.sizeOf141
 v164 := Try.zeroValue141 }
theorem Try.Builder_Extra_156 : Builder.Extra Try.prog Try.lays156_ren := {
 sizeBuilder := by kernel_rfl
 liesBuilder := by kernel_rfl
 t5 := Try.underlying5
 a5 := Try.isAgg5
 z5 := Try.sizeOf5
 v5 := Try.zeroValue5
 infoByte := by kernel_rfl
 cellsByte := by kernel_rfl
 sizeByte := by kernel_rfl
 neB5 := by decide }
open Go.RowKit in
theorem Try.strings_Join_none (a : Option Addr) (c : Nat) (sep : ByteArray) (w : World) :
  Calls Try.prog 62 #[.slice a 0 c, .string sep] w fun e w' => e = .returned (.string ⟨#[]⟩) ∧ w' = w := Any.strings_Join_none Try.lays156 Try.Builder_Extra_156 a c sep w
open Go.RowKit in
theorem Try.strings_Join (bk o c : Nat) (xs : List ByteArray) (sep : ByteArray) (w : World) (hcells : ∀ (j : Nat) x, xs[j]? = some x → w.cell? ⟨bk, o + j, none⟩ = some (.string x)) (hbk : bk < w.heap.size) (hN : xs.length ≤ 140737488355328) (hcap : xs.length ≤ c) (hlen : (Lib.join (xs.map (·.data.toList)) sep.data.toList).length ≤ 140737488355328) :
    Calls Try.prog 62 #[.slice (some ⟨bk, o, none⟩) xs.length c, .string sep] w fun e w' => e = .returned (.string ⟨(Lib.join (xs.map (·.data.toList)) sep.data.toList).toArray⟩) ∧ Below w.heap.size w w' := Any.strings_Join Try.lays156 Try.Builder_Extra_156 bk o c xs sep w hcells hbk hN hcap hlen
end Go.Proofs
