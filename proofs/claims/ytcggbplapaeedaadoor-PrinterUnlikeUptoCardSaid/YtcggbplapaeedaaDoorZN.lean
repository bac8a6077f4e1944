/-
  A part of the proof of a law: see the text that states it.
-/
import Derived.Test.YtcggbplapaeedaaDoorZM
import Derived.Test.YtcggbplapaeedaaDoorZK
import Derived.Test.YtcggbplapaeedaaDoorG
import Derived.Test.YtcggbplapaeedaaDoorVcP
set_option linter.all false
namespace Go.Am.R
open Go Go.Am.Pr Go.Am.R.L
set_option maxRecDepth 100000
theorem ByP.of {g:Gr} (h:InR tGr g):ByP g:=by
 obtain ⟨h1,h2,_⟩:=h
 refine ⟨fun t ht=>?_,fun p hp=>?_⟩
 ·have:=(inr_mem (t:=tTk) h1 t ht).2.1
  exact ⟨this.1.2,this.2.1.2⟩
 ·have:=inr_mem (t:=tPat) h2 p hp
  exact ⟨this.1.2,this.2.1.2⟩
theorem Few.fit {g:Gr} (h:Few g):Fit g:=by
  refine ⟨by have:=h.tk;omega,by have:=h.sk;omega,by have:=h.lv;omega,by have:=h.rl;omega,fun x hx=>?_,fun r hr=>by have:=(h.rls r hr).2.1;omega⟩
  have q:x.2.1.length≤(g.2.2.1.flatMap (·.2.1)).length:=by
    obtain ⟨a,b,e⟩:=List.append_of_mem hx
    rw [e]
    simp only [List.flatMap_append,List.flatMap_cons,List.length_append];omega
  have:=h.lvn
  omega
end Go.Am.R
