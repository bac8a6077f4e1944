/-
  A part of the proof of a law: see the text that states it.
-/
import Derived.Test.YtcggbplapaeedaaDoorZM
import Derived.Test.YtcggbplapaeedaaDoorZK
import Derived.Test.YtcggbplapaeedaaDoorG
import Derived.Test.YtcggbplapaeedaaDoorVcT
set_option linter.all false
namespace Go.Am.R
open Go Go.Am.Pr Go.Am.R.L
set_option maxRecDepth 100000
theorem by_app {a b:List Int} (h1:By a) (h2:By b):By (a++b):=fun c hc=>(List.mem_append.1 hc).elim (h1 c) (h2 c)
theorem by_flat {α:Type} {f:α→List Int} {l:List α} (h:∀ x∈l,By (f x)):By (l.flatMap f):=fun c hc=>by
 obtain ⟨x,hx,hc⟩:=List.mem_flatMap.1 hc
 exact h x hx c hc
theorem by_sp {l:List qT0} (h:ByN l):By (spW l):=by_flat fun x hx=>by_app (by unfold By;decide) (h x hx)
theorem by_lvW (a:Int):By (lvW a):=by
 unfold lvW
 match Int.toNat a with
 | 0=>unfold By;decide
 | 1=>unfold By;decide
 | 2=>unfold By;decide
 | 3=>unfold By;decide
 | n+4=>intro c hc;simp at hc
theorem by_rule {r:Rl} (h:(∀ c∈r.1,0≤c∧c<256)∧ByN r.2.1∧(∀ c∈r.2.2.1,0≤c∧c<256)∧ActB r):By (ruleT r):=by
 rw [ruleT_eq]
 refine by_app (by_app (by_app (by_app (by_app h.1 (by unfold By;decide)) (by_sp h.2.1)) ?_) ?_) (by unfold By;decide)
 ·split
  ·intro c hc;cases hc
  ·exact by_app (by unfold By;decide) h.2.2.1
 ·split
  ·intro c hc;cases hc
  ·exact by_app (by_app (by unfold By;decide) h.2.2.2) (by unfold By;decide)
theorem by_gr {g:Gr} (h:ByG g) (hp:ByP g):By (grT g):=by
 unfold grT
 refine by_app ?_ (by_flat fun r hr=>by rw [rlLine_eq];exact by_app (by_rule (h.rl r hr)) (by unfold By;decide))
 rw [List.append_assoc,stLine_eq]
 refine by_app (by_app (by_app (by_flat fun t ht=>?_) (by_flat fun p hq=>?_)) (by_flat fun x hx=>?_)) (by_app (by_app (by unfold By;decide) h.st) (by unfold By;decide))
 ·rw [tkLine_eq]
  exact by_app (by_app (by_app (by_app (by unfold By;decide) (h.tk t ht)) (by unfold By;decide)) (patT_byte (hp.tk t ht).1 (hp.tk t ht).2)) (by unfold By;decide)
 ·rw [skLine_eq]
  exact by_app (by_app (by unfold By;decide) (patT_byte (hp.sk p hq).1 (hp.sk p hq).2)) (by unfold By;decide)
 ·rw [lvLine_eq]
  exact by_app (by_app (by_lvW _) (by_sp (h.lv x hx))) (by unfold By;decide)
theorem ByP.of {g:Gr} (h:InR tGr g):ByP g:=by
 obtain ⟨h1,h2,_⟩:=h
 refine ⟨fun t ht=>?_,fun p hp=>?_⟩
 ·have:=(inr_mem (t:=tTk) h1 t ht).2.1
  exact ⟨this.1.2,this.2.1.2⟩
 ·have:=inr_mem (t:=tPat) h2 p hp
  exact ⟨this.1.2,this.2.1.2⟩
theorem Few.fit {g:Gr} (h:Few g):Fit g:=by
  refine ⟨by have:=h.tk;omega,by have:=h.sk;omega,by have:=h.lv;omega,by have:=h.rl;omega,fun x hx=>?_,fun r hr=>by have:=(h.rls r hr).2.1;omega⟩
  have q:x.2.1.length≤(g.2.2.1.flatMap (·.2.1)).length:=by
    obtain ⟨a,b,e⟩:=List.append_of_mem hx
    rw [e]
    simp only [List.flatMap_append,List.flatMap_cons,List.length_append];omega
  have:=h.lvn
  omega
end Go.Am.R
