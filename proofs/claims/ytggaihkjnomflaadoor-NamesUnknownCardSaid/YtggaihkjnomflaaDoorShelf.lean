/-
  A part of the proof of a law: see the text that states it.
-/
import Derived.Shelf.Strings.OnBuilder
import Derived.Test.YtggaihkjnomflaaDoorProg
set_option linter.all false
namespace Go.Proofs
open Go.Shelf
set_option linter.all false
def Tryd.lays156_ren:Go.Shelf.Ren:=⟨fun | 156=>27 | 165=>43 | 166=>44 | 169=>45 | 240=>59 | 241=>60 | 276=>76 | 277=>77 | n=>n,fun | 31=>30 | 9=>9 | 3=>3 | 4=>4 | 0=>0 | 20=>20 | 72=>91 | 76=>95 | 70=>89 | 37=>50 | 75=>94 | 127=>118 | 164=>127 | 5=>5 | 80=>97 | n=>n,fun | n=>n⟩
theorem Tryd.lays156:Go.Proofs.Lays.n156 Tryd.prog Tryd.lays156_ren:={
 mixed:=by kernel_rfl
 f156:=Tryd.func27.trans (congrArg some (by kernel_rfl))
 f165:=Tryd.func43.trans (congrArg some (by kernel_rfl))
 f166:=Tryd.func44.trans (congrArg some (by kernel_rfl))
 f169:=Tryd.func45.trans (congrArg some (by kernel_rfl))
 f240:=Tryd.func59.trans (congrArg some (by kernel_rfl))
 f241:=Tryd.func60.trans (congrArg some (by kernel_rfl))
 f276:=Tryd.func76.trans (congrArg some (by kernel_rfl))
 f277:=Tryd.func77.trans (congrArg some (by kernel_rfl))
 t0:=Tryd.underlying0
 a0:=Tryd.isAgg0
 z0:=Tryd.sizeOf0
 v0:=Tryd.zeroValue0
 t3:=Tryd.underlying3
 a3:=Tryd.isAgg3
 z3:=Tryd.sizeOf3
 v3:=Tryd.zeroValue3
 t4:=Tryd.underlying4
 a4:=Tryd.isAgg4
 z4:=Tryd.sizeOf4
 v4:=Tryd.zeroValue4
 t9:=Tryd.underlying9
 a9:=Tryd.isAgg9
 z9:=Tryd.sizeOf9
 v9:=Tryd.zeroValue9
 t20:=Tryd.underlying20
 a20:=Tryd.isAgg20
 z20:=Tryd.sizeOf20
 v20:=Tryd.zeroValue20
 t31:=Tryd.underlying30
 a31:=Tryd.isAgg30
 z31:=Tryd.sizeOf30
 v31:=Tryd.zeroValue30
 t37:=Tryd.underlying50
 a37:=Tryd.isAgg50
 z37:=Tryd.sizeOf50
 v37:=Tryd.zeroValue50
 t70:=Tryd.underlying89
 a70:=Tryd.isAgg89
 z70:=Tryd.sizeOf89
 v70:=Tryd.zeroValue89
 t72:=Tryd.underlying91
 a72:=Tryd.isAgg91
 z72:=Tryd.sizeOf91
 v72:=Tryd.zeroValue91
 t75:=Tryd.underlying94
 a75:=Tryd.isAgg94
 z75:=Tryd.sizeOf94
 v75:=Tryd.zeroValue94
 t76:=Tryd.underlying95
 a76:=Tryd.isAgg95
 z76:=Tryd.sizeOf95
 v76:=Tryd.zeroValue95
 t127:=Tryd.underlying118
 a127:=Tryd.isAgg118
 z127:=Tryd.sizeOf118
 v127:=Tryd.zeroValue118
 t164:=Tryd.underlying127
 a164:=Tryd.isAgg127
 z164:=Tryd.sizeOf127
 v164:=Tryd.zeroValue127 }
theorem Tryd.Builder_Extra_156:Builder.Extra Tryd.prog Tryd.lays156_ren:={
 sizeBuilder:=by kernel_rfl
 liesBuilder:=by kernel_rfl
 t5:=Tryd.underlying5
 a5:=Tryd.isAgg5
 z5:=Tryd.sizeOf5
 v5:=Tryd.zeroValue5
 infoByte:=by kernel_rfl
 cellsByte:=by kernel_rfl
 sizeByte:=by kernel_rfl
 neB5:=by decide }
open Go.RowKit in
theorem Tryd.strings_Join_none (a:Option Addr) (c:Nat) (sep:ByteArray) (w:World) :
  Calls Tryd.prog 27 #[.slice a 0 c,.string sep] w fun e w'=>e=.returned (.string ⟨#[]⟩)∧w'=w:=Any.strings_Join_none Tryd.lays156 Tryd.Builder_Extra_156 a c sep w
open Go.RowKit in
theorem Tryd.strings_Join (bk o c : Nat) (xs : List ByteArray) (sep : ByteArray) (w : World) (hcells : ∀ (j : Nat) x, xs[j]? = some x → w.cell? ⟨bk, o + j, none⟩ = some (.string x)) (hbk : bk < w.heap.size) (hN : xs.length ≤ 140737488355328) (hcap : xs.length ≤ c) (hlen : (Lib.join (xs.map (·.data.toList)) sep.data.toList).length ≤ 140737488355328) :
    Calls Tryd.prog 27 #[.slice (some ⟨bk,o,none⟩) xs.length c,.string sep] w fun e w'=>e=.returned (.string ⟨(Lib.join (xs.map (·.data.toList)) sep.data.toList).toArray⟩)∧Below w.heap.size w w':=Any.strings_Join Tryd.lays156 Tryd.Builder_Extra_156 bk o c xs sep w hcells hbk hN hcap hlen
end Go.Proofs
