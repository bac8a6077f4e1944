/-
  A part of the proof of a law: see the text that states it.
-/
import Derived.Test.YtcggbplapaeedaaDoorZJ
import Derived.Test.YtcggbplapaeedaaDoorZE
set_option linter.all false
namespace Go.Am.R
open Go Go.Am.Pr Go.Am.R.L
set_option maxRecDepth 100000
theorem inr_mem {t:Ty} {l:List (den t)} (h:InR (.slice t) l):∀ y∈l,InR t y:=by
 intro y hy
 obtain ⟨i,hi,rfl⟩:=List.mem_iff_getElem.1 hy
 have:=h.2 i hi
 rw [List.getD_eq_getElem?_getD,List.getElem?_eq_getElem hi] at this
 exact this
theorem ByG.of {g:Gr} (h:InR tGr g):ByG g:=by
 obtain ⟨h1,h2,h3,h4,h5,_⟩:=h
 refine ⟨fun t ht=>(inr_mem (t:=tTk) h1 t ht).1.2,fun x hx s hs=>?_,h4.2,fun r hr=>?_⟩
 ·have:=(inr_mem (t:=tLv) h3 x hx).2.1
  exact (inr_mem (t:=.str) this s hs).2
 ·have:=inr_mem (t:=tRl) h5 r hr
  exact ⟨this.1.2,fun s hs=>(inr_mem (t:=.str) this.2.1 s hs).2,this.2.2.1.2,this.2.2.2.1.2⟩
end Go.Am.R
