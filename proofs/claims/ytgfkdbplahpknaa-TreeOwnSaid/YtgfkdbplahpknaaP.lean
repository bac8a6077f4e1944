/-
  A part of the proof of a law: see the text that states it.
-/
import Derived.Test.YtgfkdbplahpknaaHead
import Derived.Test.YtgfkdbplahpknaaShelf
import Derived.Test.YtgfkdbplahpknaaAm4
import Derived.Test.YtgfkdbplahpknaaChecked
import Derived.Lib.Walk
set_option linter.all false
namespace Go.Am.T
open Go Go.Am.Pr Go.Proofs
set_option maxRecDepth 100000
theorem prim62 (args : List AV) (r : AV) (hg : joinPrim args = some r) : hasBody PP 62 ∧ ∀ (FB : Nat → Nat → Prop) (w : World) (h : Heap) (ι : Key → Nat) (vs : Array Value), args.length = vs.size → Rel orc FB w ⟨args, h⟩ (tmArgs vs) ι →
  Calls PP 62 vs w fun e w' => ∃ v ι', e = .returned v ∧ Goes orc FB w ⟨args, h⟩ (tmArgs vs) ι w' ⟨[r], h⟩ (fun _ => v) ι' :=
 join_ok ⟨Try.f62, Try.func62, by kernel_rfl, by kernel_rfl⟩ Try.strings_Join_none Try.strings_Join args r hg
end Go.Am.T
