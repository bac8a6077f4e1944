/-
  A part of the proof of a law: see the text that states it.
-/
import Derived.Test.YtcggbplapaeedaaDoorT
set_option linter.all false
namespace Go.Am.R
open Go Go.Am.Pr Go.Am.R.L
set_option maxRecDepth 100000
def escB (which:List Int) (c:Int):List Int:=if c=10 then [92,110] else if c=9 then [92,116] else if 0≤idxB which c then [92,c] else [c]
def escT (which:List Int) (w:List Int):List Int:=w.flatMap (escB which)
abbrev qT:List Int:=[92,34]
theorem idxB_mem (c:Int):∀ l:List Int,0≤idxB l c↔c∈l
 | []=>by simp [idxB]
 | a::l=>by
  have ih:=idxB_mem c l
  have hb:=idxB_bound l c
  rw [List.mem_cons]
  unfold idxB
  split
  ·rename_i h;exact ⟨fun _=>.inl h.symm,fun _=>by omega⟩
  ·rename_i h
   split
   ·rename_i h2
    refine ⟨fun q=>by omega,fun q=>?_⟩
    rcases q with q | q
    ·exact absurd q.symm h
    ·have:=ih.2 q;omega
   ·rename_i h2
    exact ⟨fun _=>.inr (ih.1 (by omega)),fun _=>by omega⟩
theorem idxB_qT (c:Int):0≤idxB qT c↔c=92∨c=34:=by
 rw [idxB_mem];simp
end Go.Am.R
