/-
  A part of the proof of a law: see the text that states it.
-/
import Derived.Test.YtcggbplapaeedaaDoorZS
import Derived.Test.YtcggbplapaeedaaDoorZO
import Derived.Test.YtcggbplapaeedaaDoorVcT
set_option linter.all false
namespace Go.Am.R
open Go Go.Am.Pr Go.Am.R.L
set_option maxRecDepth 100000
def canonO (s:List Int):List Int×Dg:=if (readK s).2.1≠0 then ([],(readK s).2) else if (printO (readK s).1).2≠0 then ([],((printO (readK s).1).2,((1,(1,())),()))) else ((printO (readK s).1).1,dg0)
theorem canon_ev (s:List Int) (hl:s.length≤4000) (hs:By s):E 29 [.tv [] .str s] [] (.tup [sv (canonO s).1,.tv [] TDiag (canonO s).2]) []:=by
 have C:=readR s hl hs
 unfold canonO
 rcases read_right s hl hs with ⟨c,p,h,hc⟩ | ⟨g,h,hr,hb,hp,hf⟩
 ·rw [h] at C ⊢
  refine ev_of (vc29 s _ ⟨_,_,_,_,_,_,_,_,⟨C⟩,fun _=>?_,fun q=>absurd q (by simp [hc])⟩)
  rw [if_pos hc];exact ⟨rfl,rfl⟩
 ·rw [h] at C ⊢
  have P:=print_ev g hf
  rw [if_neg (not_not_intro rfl)]
  obtain ⟨tk,sk,lv,st,rl,⟨⟩⟩:=g
  refine ev_of (vc29 s _ ⟨tk,sk,lv,st,rl,_,_,_,⟨C⟩,fun q=>absurd q (by decide),fun _=>⟨_,_,⟨P⟩,fun q=>?_,fun q=>?_⟩⟩)
  ·(simp only [decide_eq_true_eq,decide_eq_false_iff_not,Bool.not_eq_true',Bool.not_eq_false'] at q);rw [if_pos q];exact ⟨rfl,rfl⟩
  ·(simp only [decide_eq_true_eq,decide_eq_false_iff_not,Bool.not_eq_true',Bool.not_eq_false'] at q);rw [if_neg q];exact ⟨rfl,rfl⟩
theorem reads (s:List Int) (hs:By s):E 11 [.tv [] .str s] [] (bv true) []:=by
 refine ev_of (vc11 s _ ⟨true,⟨awake7_ev⟩,fun _=>⟨rfl,rfl⟩,fun h=>?_⟩)
 (simp only [decide_eq_true_eq,decide_eq_false_iff_not,Bool.not_eq_true',Bool.not_eq_false'] at h)
 have hl:s.length≤4000:=by omega
 have C:=readR s hl hs
 have D:=canon_ev s hl hs
 unfold canonO at D
 rcases read_right s hl hs with ⟨c,p,h,hc⟩ | ⟨g,h,hr,hb,hp,hf⟩
 ·rw [h] at C D
  rw [if_pos hc] at D
  refine ⟨_,_,_,_,_,_,_,_,⟨C⟩,_,_,_,_,⟨D⟩,fun _=>⟨fun _=>⟨fun _=>⟨tvB ?_,rfl⟩,fun q=>absurd q (by simp)⟩,fun q=>absurd q (by decide)⟩,fun q=>absurd q (by simp [hc])⟩
  simp
 ·rw [h] at C D
  rw [if_neg (not_not_intro rfl)] at D
  have P:=print_ev g hf
  have R:=right_ev g hf
  rw [hr] at R
  have S:=same_ev g hf.fit
  have hpo:printO g=printO g:=rfl
  conv at hpo=>rhs;unfold printO
  rw [if_neg (by rw [hr];decide)] at hpo
  have rb:=read_back hr hp
  have rd:=fun h=>readR (grT g) h (by_gr hb hp)
  obtain ⟨tk,sk,lv,st,rl,⟨⟩⟩:=g
  refine ⟨tk,sk,lv,st,rl,_,_,_,⟨C⟩,_,_,_,_,⟨D⟩,fun q=>absurd q (by decide),fun _=>⟨_,⟨R⟩,_,_,⟨P⟩,fun q=>absurd q (by decide),fun _=>⟨fun q=>?_,fun q=>?_⟩⟩⟩
  ·(simp only [decide_eq_true_eq,decide_eq_false_iff_not,Bool.not_eq_true',Bool.not_eq_false'] at q)
   refine ⟨fun _=>⟨fun _=>⟨tvB ?_,rfl⟩,fun q=>absurd q (by decide)⟩,fun q=>absurd q (by decide)⟩
   have q:(printO (tk,(sk,(lv,(st,(rl,())))))).2=12:=q
   rw [if_pos (by rw [q];decide)]
   exact decide_eq_true q
  ·(simp only [decide_eq_true_eq,decide_eq_false_iff_not,Bool.not_eq_true',Bool.not_eq_false'] at q)
   by_cases hl2:4000<(grT (tk,(sk,(lv,(st,(rl,())))))).length
   ·rw [if_pos hl2] at hpo
    exact absurd (congrArg Prod.snd hpo) q
   rw [if_neg hl2] at hpo
   have rd:=rd (Nat.le_of_not_lt hl2)
   rw [rb] at rd
   rw [hpo] at P ⊢
   rw [if_neg (not_not_intro rfl)]
   refine ⟨tk,sk,lv,st,rl,_,_,_,⟨rd⟩,_,_,⟨P⟩,fun _=>⟨fun _=>⟨fun _=>⟨fun _=>⟨_,⟨S⟩,fun _=>⟨fun _=>⟨tvB (decide_eq_true rfl),rfl⟩,fun q=>absurd q (by simp)⟩,fun q=>absurd q (by simp)⟩,fun q=>absurd q (by simp)⟩,fun q=>absurd q (by simp)⟩,fun q=>absurd q (by simp)⟩,fun q=>absurd q (by simp)⟩
end Go.Am.R
