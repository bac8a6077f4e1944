/-
  A part of the proof of a law: see the text that states it.
-/
import Derived.Test.YtggaihkjnomflaaGreatDoorPK
import Derived.Test.YtggaihkjnomflaaGreatDoorPG
import Derived.Test.YtggaihkjnomflaaGreatDoorZG
import Derived.Test.YtggaihkjnomflaaGreatDoorVcY
set_option linter.all false
namespace Go.Am.N
open Go Go.Am.Pr Go.Am.N.L
set_option maxRecDepth 100000
theorem inr_mem {t:Ty} {l:List (den t)} (h:InR (.slice t) l):∀ y∈l,InR t y:=by
 intro y hy
 obtain ⟨i,hi,rfl⟩:=List.mem_iff_getElem.1 hy
 have:=h.2 i hi
 rw [List.getD_eq_getElem?_getD,List.getElem?_eq_getElem hi] at this
 exact this
theorem ByG.of {g:Gr} (h:InR tGr g):ByG g:=by
 obtain ⟨h1,h2,h3,h4,h5,_⟩:=h
 refine ⟨fun t ht=>(inr_mem (t:=tTk) h1 t ht).1.2,fun x hx s hs=>?_,h4.2,fun r hr=>?_⟩
 ·have:=(inr_mem (t:=tLv) h3 x hx).2.1
  exact (inr_mem (t:=.str) this s hs).2
 ·have:=inr_mem (t:=tRl) h5 r hr
  exact ⟨this.1.2,fun s hs=>(inr_mem (t:=.str) this.2.1 s hs).2,this.2.2.1.2,this.2.2.2.1.2⟩
theorem plF_of {g:Gr} (hg:Few g):PlF (ofO g).1:=by
  have z:PlF pl0:=⟨by decide,by decide,by decide,nofun,by decide,by decide,by decide⟩
  rcases ofO_cases g with ⟨c1,_,_⟩ | ⟨c1,_⟩
  · rw [c1];exact z
  · rw [c1]
    obtain ⟨⟨b1,b2⟩,b3⟩:=declB hg
    have h1:=hg.tk
    have h5:=hg.lv
    have h7:=hg.rl
    have h8:=hg.rls
    refine ⟨?_,?_,?_,fun x hx=>?_,?_,?_,?_⟩
    · show (declO g).1.length≤_;omega
    · show (declO g).2.1.length≤_;omega
    · show (rulesP g (declO g)).length≤_
      unfold rulesP
      rw [List.length_cons,List.length_map];omega
    · rcases List.mem_cons.1 hx with rfl | hx
      · show ([_]:List Int).length≤_
        rw [List.length_singleton];decide
      · obtain ⟨r,hr,rfl⟩:=List.mem_map.1 hx
        show (r.2.1.map _).length≤_
        rw [List.length_map]
        have:=(h8 r hr).2.1;omega
    · show (declO g).2.2.2.1.length≤_;omega
    · show ((0:Int)::g.2.2.1.map _).length≤_
      rw [List.length_cons,List.length_map];omega
    · show ([]::g.2.2.2.2.1.map (·.2.2.2.1)).length≤_
      rw [List.length_cons,List.length_map];omega
theorem plans (g:Gr) (hi:InR tGr g) (hw:wT tGr g≤1048576):E 3 [.tv [] tGr g] [] (bv true) []:=by
 have hb:=ByG.of hi
 have hf:=few_ev g hw
 have hfew:=fun h=>few_of (g:=g) h fun r hr=>(hb.rl r hr).2.2.2
 have o1:=fun h=>of_ev g (hfew h)
 have o2:=fun h=>rof_ev g (hfew h) (Bd.of hw) hb
 have sm:=fun h=>psame_ev (plF_of (hfew h))
 clear hi hb hw hfew
 generalize ofO g=o at o1 o2 sm
 obtain ⟨⟨a,b,c,d,e,f,⟨⟩⟩,er,s⟩:=o
 obtain ⟨tk,sk,lv,st,rl,⟨⟩⟩:=g
 refine ev_of (vc3 tk sk lv st rl _ ⟨true,⟨awake8_ev⟩,_,⟨hf⟩,fun _=>⟨rfl,rfl⟩,fun q=>?_⟩)
 simp only [Bool.not_eq_false'] at q
 exact ⟨a,b,c,d,e,f,er,s,⟨o1 q⟩,a,b,c,d,e,f,er,s,⟨o2 q⟩,fun _=>⟨fun _=>⟨fun _=>⟨_,⟨sm q⟩,rfl,rfl⟩,fun q=>absurd q (by simp)⟩,fun q=>absurd q (by simp)⟩,fun q=>absurd q (by decide)⟩
end Go.Am.N
