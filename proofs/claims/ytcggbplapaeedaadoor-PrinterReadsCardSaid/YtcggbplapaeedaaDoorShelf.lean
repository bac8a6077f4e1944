/-
  A part of the proof of a law: see the text that states it.
-/
import Derived.Shelf.Strings.OnBuilder
import Derived.Test.YtcggbplapaeedaaDoorProg
set_option linter.all false
namespace Go.Proofs
open Go.Shelf
set_option linter.all false
def Tryd.lays156_ren:Go.Shelf.Ren:=⟨fun | 156=>44 | 165=>63 | 166=>54 | 169=>34 | 240=>79 | 241=>82 | 276=>99 | 277=>101 | n=>n,fun | 31=>42 | 9=>9 | 3=>3 | 4=>4 | 0=>0 | 20=>20 | 72=>72 | 76=>103 | 70=>70 | 37=>46 | 75=>102 | 127=>106 | 164=>137 | 5=>5 | 80=>78 | n=>n,fun | n=>n⟩
theorem Tryd.lays156:Go.Proofs.Lays.n156 Tryd.prog Tryd.lays156_ren:={
 mixed:=by kernel_rfl
 f156:=Tryd.func44.trans (congrArg some (by kernel_rfl))
 f165:=Tryd.func63.trans (congrArg some (by kernel_rfl))
 f166:=Tryd.func54.trans (congrArg some (by kernel_rfl))
 f169:=Tryd.func34.trans (congrArg some (by kernel_rfl))
 f240:=Tryd.func79.trans (congrArg some (by kernel_rfl))
 f241:=Tryd.func82.trans (congrArg some (by kernel_rfl))
 f276:=Tryd.func99.trans (congrArg some (by kernel_rfl))
 f277:=Tryd.func101.trans (congrArg some (by kernel_rfl))
 t0:=Tryd.underlying0
 a0:=Tryd.isAgg0
 z0:=Tryd.sizeOf0
 v0:=Tryd.zeroValue0
 t3:=Tryd.underlying3
 a3:=Tryd.isAgg3
 z3:=Tryd.sizeOf3
 v3:=Tryd.zeroValue3
 t4:=Tryd.underlying4
 a4:=Tryd.isAgg4
 z4:=Tryd.sizeOf4
 v4:=Tryd.zeroValue4
 t9:=Tryd.underlying9
 a9:=Tryd.isAgg9
 z9:=Tryd.sizeOf9
 v9:=Tryd.zeroValue9
 t20:=Tryd.underlying20
 a20:=Tryd.isAgg20
 z20:=Tryd.sizeOf20
 v20:=Tryd.zeroValue20
 t31:=Tryd.underlying42
 a31:=Tryd.isAgg42
 z31:=Tryd.sizeOf42
 v31:=Tryd.zeroValue42
 t37:=Tryd.underlying46
 a37:=Tryd.isAgg46
 z37:=Tryd.sizeOf46
 v37:=Tryd.zeroValue46
 t70:=Tryd.underlying70
 a70:=Tryd.isAgg70
 z70:=Tryd.sizeOf70
 v70:=Tryd.zeroValue70
 t72:=Tryd.underlying72
 a72:=Tryd.isAgg72
 z72:=Tryd.sizeOf72
 v72:=Tryd.zeroValue72
 t75:=Tryd.underlying102
 a75:=Tryd.isAgg102
 z75:=Tryd.sizeOf102
 v75:=Tryd.zeroValue102
 t76:=Tryd.underlying103
 a76:=Tryd.isAgg103
 z76:=Tryd.sizeOf103
 v76:=Tryd.zeroValue103
 t127:=Tryd.underlying106
 a127:=Tryd.isAgg106
 z127:=Tryd.sizeOf106
 v127:=Tryd.zeroValue106
 t164:=Tryd.underlying137
 a164:=Tryd.isAgg137
 z164:=Tryd.sizeOf137
 v164:=Tryd.zeroValue137 }
theorem Tryd.Builder_Extra_156:Builder.Extra Tryd.prog Tryd.lays156_ren:={
 sizeBuilder:=by kernel_rfl
 liesBuilder:=by kernel_rfl
 t5:=Tryd.underlying5
 a5:=Tryd.isAgg5
 z5:=Tryd.sizeOf5
 v5:=Tryd.zeroValue5
 infoByte:=by kernel_rfl
 cellsByte:=by kernel_rfl
 sizeByte:=by kernel_rfl
 neB5:=by decide }
open Go.RowKit in
theorem Tryd.strings_Join_none (a:Option Addr) (c:Nat) (sep:ByteArray) (w:World) :
  Calls Tryd.prog 44 #[.slice a 0 c,.string sep] w fun e w'=>e=.returned (.string ⟨#[]⟩)∧w'=w:=Any.strings_Join_none Tryd.lays156 Tryd.Builder_Extra_156 a c sep w
open Go.RowKit in
theorem Tryd.strings_Join (bk o c : Nat) (xs : List ByteArray) (sep : ByteArray) (w : World) (hcells : ∀ (j : Nat) x, xs[j]? = some x → w.cell? ⟨bk, o + j, none⟩ = some (.string x)) (hbk : bk < w.heap.size) (hN : xs.length ≤ 140737488355328) (hcap : xs.length ≤ c) (hlen : (Lib.join (xs.map (·.data.toList)) sep.data.toList).length ≤ 140737488355328) :
    Calls Tryd.prog 44 #[.slice (some ⟨bk,o,none⟩) xs.length c,.string sep] w fun e w'=>e=.returned (.string ⟨(Lib.join (xs.map (·.data.toList)) sep.data.toList).toArray⟩)∧Below w.heap.size w w':=Any.strings_Join Tryd.lays156 Tryd.Builder_Extra_156 bk o c xs sep w hcells hbk hN hcap hlen
end Go.Proofs
