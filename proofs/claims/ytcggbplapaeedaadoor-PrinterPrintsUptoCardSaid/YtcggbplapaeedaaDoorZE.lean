/-
  A part of the proof of a law: see the text that states it.
-/
import Derived.Test.YtcggbplapaeedaaDoorZD
import Derived.Test.YtcggbplapaeedaaDoorVcO
import Derived.Test.YtcggbplapaeedaaDoorVcQ
set_option linter.all false
namespace Go.Am.R
open Go Go.Am.Pr Go.Am.R.L
set_option maxRecDepth 100000
theorem awake7_ev:E 18 [] [] (bv true) []:=by
 have pr:=print_ev ([],([],([],([69],([([69],([[69],[78]],([],([49],()))))],()))))) ⟨Nat.zero_le _,nofun,Nat.zero_le _,nofun,Nat.zero_le _,Nat.zero_le _,by decide,by
  intro r hr
  rw [List.mem_singleton] at hr
  subst hr
  refine ⟨by decide,by decide,?_,by decide,by decide⟩
  intro x hx
  simp only [List.mem_cons,List.not_mem_nil,or_false] at hx
  rcases hx with rfl | rfl <;> decide,by
  intro r hr
  rw [List.mem_singleton] at hr
  subst hr
  intro c hc
  rw [List.mem_singleton] at hc
  subst hc;decide⟩
 have pt:=Pattern_ev ([],([45,48],(true,()))) (by decide) (by decide)
 have e1:printO ([],([],([],([69],([([69],([[69],[78]],([],([49],()))))],())))))=([37,115,116,97,114,116,32,69,10,37,37,10,69,32,58,32,69,32,78,32,123,49,125,32,59,10],0):=by decide +kernel
 have e2:patT ([],([45,48],(true,())))=[91,92,45,48,93,43]:=by decide +kernel
 rw [e1] at pr
 rw [e2] at pt
 exact ev_of (vc18 _ ⟨_,_,⟨pr⟩,_,⟨pt⟩,fun _=>⟨fun _=>⟨rfl,rfl⟩,fun q=>absurd q (by decide)⟩,fun q=>absurd q (by decide)⟩)
end Go.Am.R
