/-
  A part of the proof of a law: see the text that states it.
-/
import Derived.Test.YtggaihkjnomflaaGreatDoorF
import Derived.Test.YtggaihkjnomflaaGreatDoorLM
import Derived.Test.YtggaihkjnomflaaGreatDoorVcL
set_option linter.all false
namespace Go.Am.N
open Go Go.Am.Pr Go.Am.N.L
set_option maxRecDepth 100000
structure Fit (a:Gr):Prop where
 tk:a.1.length≤1000000
 sk:a.2.1.length≤1000000
 lv:a.2.2.1.length≤1000000
 rl:a.2.2.2.2.1.length≤1000000
 ln:∀ x∈a.2.2.1,x.2.1.length≤1000000
 rn:∀ x∈a.2.2.2.2.1,x.2.1.length≤1000000
theorem ahZ {α:Type} (d:α) (l:List α) (i:Nat) (h:i<l.length):l.getD i d∈l:=by
 rw [List.getD_eq_getElem?_getD,List.getElem?_eq_getElem h,Option.getD_some];exact List.getElem_mem h
end Go.Am.N
