/-
  A part of the proof of a law: see the text that states it.
-/
import Derived.Test.YtcggbplapaeedaaDoorZJ
import Derived.Test.YtcggbplapaeedaaDoorZE
set_option linter.all false
namespace Go.Am.R
open Go Go.Am.Pr Go.Am.R.L
set_option maxRecDepth 100000
theorem inr_mem {t:Ty} {l:List (den t)} (h:InR (.slice t) l):∀ y∈l,InR t y:=by
 intro y hy
 obtain ⟨i,hi,rfl⟩:=List.mem_iff_getElem.1 hy
 have:=h.2 i hi
 rw [List.getD_eq_getElem?_getD,List.getElem?_eq_getElem hi] at this
 exact this
theorem ByG.of {g:Gr} (h:InR tGr g):ByG g:=by
 obtain ⟨h1,h2,h3,h4,h5,_⟩:=h
 refine ⟨fun t ht=>(inr_mem (t:=tTk) h1 t ht).1.2,fun x hx s hs=>?_,h4.2,fun r hr=>?_⟩
 ·have:=(inr_mem (t:=tLv) h3 x hx).2.1
  exact (inr_mem (t:=.str) this s hs).2
 ·have:=inr_mem (t:=tRl) h5 r hr
  exact ⟨this.1.2,fun s hs=>(inr_mem (t:=.str) this.2.1 s hs).2,this.2.2.1.2,this.2.2.2.1.2⟩
theorem prints (g:Gr) (hi:InR tGr g) (hw:wT tGr g≤1048576):E 7 [.tv [] tGr g] [] (bv true) []:=by
 have hb:=ByG.of hi
 have hf:=few_ev g hw
 have hfew:=fun h=>few_of (g:=g) h fun r hr=>(hb.rl r hr).2.2.2
 have p1:=fun h=>print_ev g (hfew h)
 have p2:=fun h=>rprint_ev g hw (hfew h) hb
 have r1:=fun h=>right_ev g (hfew h)
 have r2:=rright_ev g (Bd.of hw) hb
 have hR:=fun h=>(hfew h).rls
 have hT:=fun h=>(hfew h).tks
 have hL1:=fun h=>(hfew h).rl
 have hL2:=fun h=>(hfew h).tk
 rw [w_gr] at hw
 obtain ⟨tk,sk,lv,st,rl,⟨⟩⟩:=g
 dsimp only at hw hR hT hL1 hL2
 clear hfew hi hb
 refine ev_of (vc7 tk sk lv st rl _ ⟨_,⟨awake7_ev⟩,_,⟨hf⟩,fun _=>⟨rfl,rfl⟩,fun h=>?_⟩)
 simp only [Bool.not_eq_false'] at h
 have hR:=hR h
 have hT:=hT h
 have hL1:=hL1 h
 have hL2:=hL2 h
 refine ⟨_,_,⟨p1 h⟩,_,_,⟨p2 h⟩,_,⟨r1 h⟩,fun z=>∃ k:Nat,z=k∧k≤rl.length,fun z=>((rl.length:Int)-z).toNat,⟨0,rfl,by omega⟩,?_⟩
 rintro z ⟨k,rfl,hk⟩
 refine ⟨fun g1=>?_,fun g1=>?_⟩
 ·(simp only [decide_eq_true_eq,decide_eq_false_iff_not,Bool.not_eq_true',Bool.not_eq_false'] at g1)
  have hk':k<rl.length:=by omega
  rw [Int.toNat_natCast]
  have hm:=getD_mem' (([]:List Int),(([]:List qT0),(([]:List Int),(([]:List Int),())))) rl _ hk'
  have q:=hR _ hm
  have q3:=sumM_mem (wT tRl) hm
  refine ⟨⟨by omega⟩,_,⟨rule_ev _ q⟩,⟨by omega⟩,_,⟨rrule_ev _ (by omega)⟩,fun g2=>?_,fun g2=>⟨⟨by omega⟩,⟨k+1,by omega,by omega⟩,⟨by ((try dsimp only);omega)⟩⟩⟩
  simp at g2
 clear g1 hk k
 refine ⟨fun z=>∃ k:Nat,z=k∧k≤tk.length,fun z=>((tk.length:Int)-z).toNat,⟨0,rfl,by omega⟩,?_⟩
 rintro z ⟨k,rfl,hk⟩
 refine ⟨fun g1=>?_,fun g1=>?_⟩
 ·(simp only [decide_eq_true_eq,decide_eq_false_iff_not,Bool.not_eq_true',Bool.not_eq_false'] at g1)
  have hk':k<tk.length:=by omega
  rw [Int.toNat_natCast]
  have hm:=getD_mem' (([]:List Int),(([],([],(false,()))),())) tk _ hk'
  have q:=hT _ hm
  refine ⟨⟨by omega⟩,_,⟨Pattern_ev _ q.2.1 q.2.2⟩,⟨by omega⟩,_,⟨refpat_ev _ (by omega) (by omega)⟩,fun g2=>?_,fun g2=>⟨⟨by omega⟩,⟨k+1,by omega,by omega⟩,⟨by ((try dsimp only);omega)⟩⟩⟩
  simp at g2
 refine ⟨fun _=>⟨fun _=>⟨fun _=>⟨_,⟨r2⟩,tvB ?_,rfl⟩,fun q=>absurd q (by simp)⟩,fun q=>absurd q (by simp)⟩,fun q=>absurd q (by decide)⟩
 simp
end Go.Am.R
