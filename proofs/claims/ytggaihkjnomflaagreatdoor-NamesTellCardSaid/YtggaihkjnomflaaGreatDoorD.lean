/-
  A part of the proof of a law: see the text that states it.
-/
import Derived.Test.YtggaihkjnomflaaGreatDoorC
import Derived.Test.YtggaihkjnomflaaGreatDoorLL2
import Derived.Test.YtggaihkjnomflaaGreatDoorVc3
import Derived.Test.YtggaihkjnomflaaGreatDoorVc8
import Derived.Test.YtggaihkjnomflaaGreatDoorVc9
set_option linter.all false
namespace Go.Am.N
open Go Go.Am.Pr Go.Am.N.L
set_option maxRecDepth 100000
theorem mFZ (r:List L.Mark) (s:G):(cdZ r s).2.1 <:+ r:=by
 unfold cdZ
 split
 ·exact List.suffix_rfl
 ·split
  ·exact List.tail_suffix r
  ·split
   ·exact List.tail_suffix r
   ·split
    ·exact List.tail_suffix r
    ·rename_i hp;exact (luZ hp).1.trans (List.tail_suffix r)
theorem oDZ (w:L.Mark) (r:List L.Mark) (s:G):(elZ w r s).2.1 <:+ r:=by
 unfold elZ
 split
 ·exact List.suffix_rfl
 ·split
  ·exact List.suffix_rfl
  ·rename_i hp;exact (luZ hp).1
theorem mVZ (w:L.Mark) (r:List L.Mark) (s:G):(cNZ w r s).2.1 <:+ r:=by
 unfold cNZ
 split
 ·exact List.suffix_rfl
 ·split
  ·exact List.tail_suffix r
  ·exact List.suffix_rfl
theorem hdZ:∀ (r:List L.Mark) (ns:Ns) (lm:Mp),(boZ r ns lm).2.1 <:+ r
 | [],ns,lm=>by rw [boZ];split <;> exact List.suffix_rfl
 | m::r,ns,lm=>by
  rw [boZ]
  split
  ·split <;> exact List.suffix_rfl
  ·split
   ·exact List.suffix_cons m r
   ·exact (hdZ r _ _).trans (List.suffix_cons m r)
theorem eZZ (w:L.Mark) (r:List L.Mark) (s:G):(bbZ w r s).2.1 <:+ r:=by
 unfold bbZ
 have:=hdZ r [] s.lm
 split
 ·exact List.suffix_rfl
 ·split
  ·rename_i e;rw [e] at this;exact this
  ·rename_i e;rw [e] at this;exact this
theorem hPZ:∀ (r:List L.Mark) (ns:Ns),(bwZ r ns).2.1 <:+ r
 | [],ns=>by rw [bwZ];exact List.suffix_rfl
 | m::r,ns=>by
  rw [bwZ]
  split
  ·exact List.suffix_rfl
  ·split
   ·exact List.suffix_rfl
   ·exact (hPZ r _).trans (List.suffix_cons m r)
theorem miZ (r:List L.Mark):(actK r).2 <:+ r:=by
 unfold actK;split
 ·exact List.tail_suffix r
 ·exact List.suffix_rfl
theorem qAZ (left:List Int) (ns:Ns) (r:List L.Mark) (s:G):(pFZ left ns r s).2.1 <:+ r:=by
 unfold pFZ
 split
 ·split
  ·exact (miZ _).trans ((List.tail_suffix _).trans (List.tail_suffix r))
  ·exact List.tail_suffix r
 ·exact miZ r
theorem lsZ (left:List Int) (r:List L.Mark) (s:G):(lHZ left r s).2.1 <:+ r:=by
 unfold lHZ
 have:=hPZ r []
 split
 ·exact List.suffix_rfl
 ·split
  ·rename_i e;rw [e] at this;exact this
  ·rename_i e;rw [e] at this;exact (qAZ _ _ _ _).trans this
def guZ:Nat→List Int→List L.Mark→G→Out
 | 0,_,r,s=>(none,r,s)
 | f+1,left,r,s=>match lHZ left r s with
  | (some e,r',s')=>(some e,r',s')
  | (none,r',s')=>if (hd r').1=7 then guZ f left r'.tail s' else if (hd r').1=8 then (none,r'.tail,s') else (some (14,(hd r').2.2.1),r',s')
def deZ (r:List L.Mark) (s:G):Out :=
 if (hd r).1=1 then (if (hd r.tail).1=6 then guZ (r.length+1) (hd r).2.1 r.tail.tail s else (some (14,(hd r.tail).2.2.1),r.tail,s))
 else (some (14,(hd r).2.2.1),r,s)
theorem gyZ:∀ (f:Nat) (left:List Int) (r:List L.Mark) (s:G),(guZ f left r s).2.1 <:+ r
 | 0,_,r,s=>List.suffix_rfl
 | f+1,left,r,s=>by
  have:=lsZ left r s
  rw [guZ]
  split
  ·rename_i e;rw [e] at this;exact this
  ·rename_i e;rw [e] at this
   split
   ·exact (gyZ f left _ _).trans ((List.tail_suffix _).trans this)
   ·split
    ·exact (List.tail_suffix _).trans this
    ·exact this
theorem oTZ (r:List L.Mark) (s:G):(deZ r s).2.1 <:+ r:=by
 unfold deZ
 split
 ·split
  ·exact (gyZ _ _ _ _).trans ((List.tail_suffix _).trans (List.tail_suffix r))
  ·exact List.tail_suffix r
 ·exact List.suffix_rfl
section
variable {l r:List L.Mark} (s:G) (h:r <:+ l) (hl:l.length≤100000)
include h hl
theorem umZ:E 85 [.op (0,0) []] (hR l r s) (erA (deZ r s).1) (erH l (deZ r s)):=by
 refine arZ (vnZ l _ s.tk s.sk s.lv s.st s.rl s.on s.tm s.lm _ ?_)
 have hle0:=h.length_le
 have hst:=drZ h
 by_cases h1:(hd r).1=1
 ·rw [deZ,if_pos h1]
  refine .inr ?_
  ((repeat apply Exists.intro);refine And.intro (Need.mk (g0Z s h (by decide) h1 hl)) ?_)
  by_cases h2:(hd r.tail).1=6
  ·rw [if_pos h2]
   refine .inr ?_
   ((repeat apply Exists.intro);refine And.intro (Need.mk (g0Z s hst (by decide) h2 hl)) ?_)
   have hstt:=drZ hst
   have hlr:=gWZ (r:=r) (by rw [h1];decide)
   refine ⟨fun l' i tk sk lv st rl on tm lm=>∃ f r' s',l'=l∧i=((l.length-r'.length:Nat):Int)∧tk=G.tk s'∧sk=s'.sk∧lv=s'.lv∧st=s'.st∧rl=s'.rl∧on=s'.on∧tm=s'.tm∧lm=s'.lm∧r' <:+ l∧r'.length<f∧guZ f (hd r).2.1 r' s'=guZ (r.length+1) (hd r).2.1 r.tail.tail s,
    fun _ i _ _ _ _ _ _ _ _=>l.length-i.toNat,⟨r.length+1,r.tail.tail,s,rfl,rfl,rfl,rfl,rfl,rfl,rfl,rfl,rfl,rfl,hstt,?_,rfl⟩,?_⟩
   ·simp only [List.length_tail];omega
   intro l' i tk sk lv st rl on tm lm ⟨f,r',s',e1,e2,e3,e4,e5,e6,e7,e8,e9,e10,hs,hf,hT⟩
   subst l' i tk sk lv st rl on tm lm
   obtain ⟨f,rfl⟩:∃ k,f=k+1:=⟨f-1,by omega⟩
   rw [← hT,guZ]
   have C:=vZZ (hd r).2.1 s' hs hl
   have hx:=lsZ (hd r).2.1 r' s'
   have hle:=hs.length_le
   rcases ho:lHZ (hd r).2.1 r' s' with ⟨_ | e,r'',s''⟩
   ·rw [ho] at C hx
    simp only at hx ⊢
    have hs2:=hx.trans hs
    have hle2:=hx.length_le
    refine .inr ?_
    ((repeat apply Exists.intro);refine And.intro (Need.mk (C)) ?_)
    ((repeat apply Exists.intro);refine And.intro (Need.mk (isR s'' hs2 7 (by decide))) ?_)
    refine ⟨fun h7=>?_,fun h7=>?_⟩
    ·(simp only [dq1,dq2,dq3,dq4] at h7)
     rw [if_neg h7]
     by_cases h8:(hd r'').1=8
     ·rw [if_pos h8]
      refine .inr ?_
      ((repeat apply Exists.intro);refine And.intro (Need.mk (g0Z s'' hs2 (by decide) h8 hl)) ?_)
      exact ⟨rfl,rfl⟩
     ·rw [if_neg h8]
      refine .inl ?_
      ((repeat apply Exists.intro);refine And.intro (Need.mk (i5Z s'' hs2 h8)) ?_)
      exact ⟨rfl,rfl⟩
    ·(simp only [dq1,dq2,dq3,dq4] at h7)
     have hle3:=hs2.length_le
     have hsl:=eqZ hs2 (by rw [h7];decide)
     have hpos:=gWZ (r:=r'') (by rw [h7];decide)
     refine ⟨⟨by omega⟩,⟨f,r''.tail,s'',rfl,?_,rfl,rfl,rfl,rfl,rfl,rfl,rfl,rfl,drZ hs2,?_,?_⟩,⟨?_⟩⟩
     ·rw [hsl];rfl
     ·rw [List.length_tail];omega
     ·rw [if_pos h7]
     ·simp only [Int.toNat_natCast];omega
   ·obtain ⟨c,p⟩:=e
    rw [ho] at C
    refine .inl ?_
    ((repeat apply Exists.intro);refine And.intro (Need.mk (C)) ?_)
    exact ⟨rfl,rfl⟩
  ·rw [if_neg h2]
   refine .inl ?_
   ((repeat apply Exists.intro);refine And.intro (Need.mk (i5Z s hst h2)) ?_)
   refine ⟨fun d0 d1 d2 l' i tk sk lv st rl on tm lm=>d0=14∧d1=(hd r.tail).2.2.1.1∧d2=(hd r.tail).2.2.1.2.1∧l'=l∧i=((l.length-r.tail.length:Nat):Int)∧tk=s.tk∧sk=s.sk∧lv=s.lv∧st=s.st∧rl=s.rl∧on=s.on∧tm=s.tm∧lm=s.lm,fun _ _ _ _ _ _ _ _ _ _ _ _ _=>0,⟨rfl,rfl,rfl,rfl,rfl,rfl,rfl,rfl,rfl,rfl,rfl,rfl,rfl⟩,?_⟩
   intro d0 d1 d2 l' i tk sk lv st rl on tm lm ⟨e1,e2,e3,e4,e5,e6,e7,e8,e9,e10,e11,e12,e13⟩
   subst d0 d1 d2 l' i tk sk lv st rl on tm lm
   exact ⟨rfl,rfl⟩
 ·rw [deZ,if_neg h1]
  refine .inl ?_
  ((repeat apply Exists.intro);refine And.intro (Need.mk (i5Z s h h1)) ?_)
  refine ⟨fun d0 d1 d2 l' i tk sk lv st rl on tm lm=>d0=14∧d1=(hd r).2.2.1.1∧d2=(hd r).2.2.1.2.1∧l'=l∧i=((l.length-r.length:Nat):Int)∧tk=s.tk∧sk=s.sk∧lv=s.lv∧st=s.st∧rl=s.rl∧on=s.on∧tm=s.tm∧lm=s.lm,fun _ _ _ _ _ _ _ _ _ _ _ _ _=>0,⟨rfl,rfl,rfl,rfl,rfl,rfl,rfl,rfl,rfl,rfl,rfl,rfl,rfl⟩,?_⟩
  intro d0 d1 d2 l' i tk sk lv st rl on tm lm ⟨e1,e2,e3,e4,e5,e6,e7,e8,e9,e10,e11,e12,e13⟩
  subst d0 d1 d2 l' i tk sk lv st rl on tm lm
  exact ⟨rfl,rfl⟩
end
abbrev rpZ:List Int:=[116,111,107,101,110]
abbrev tuZ:List Int:=[115,107,105,112]
abbrev teZ:List Int:=[108,101,102,116]
abbrev rcZ:List Int:=[114,105,103,104,116]
abbrev uMZ:List Int:=[110,111,110,97,115,115,111,99]
abbrev rrZ:List Int:=[115,116,97,114,116]
def cIZ (m:L.Mark) (r:List L.Mark) (s:G):Option Out :=
 if m.2.1=rpZ then some (cdZ r s) else if m.2.1=tuZ then some (elZ m r s) else if m.2.1=teZ then some (bbZ m r s)
 else if m.2.1=rcZ then some (bbZ m r s) else if m.2.1=uMZ then some (bbZ m r s) else if m.2.1=rrZ then some (cNZ m r s) else none
theorem cjZ {m:L.Mark} {r:List L.Mark} {s:G} {o:Out} (h:cIZ m r s=some o):o.2.1 <:+ r:=by
 unfold cIZ at h
 split at h;· cases h;exact mFZ r s
 split at h;· cases h;exact oDZ m r s
 split at h;· cases h;exact eZZ m r s
 split at h;· cases h;exact eZZ m r s
 split at h;· cases h;exact eZZ m r s
 split at h;· cases h;exact mVZ m r s
 cases h
def bDZ:Nat→List L.Mark→G→Out
 | 0,r,s=>(none,r,s)
 | f+1,r,s=>if (hd r).1≠2 then (some (14,(hd r).2.2.1),r,s)
  else if (hd r).2.1=[37] then (none,r.tail,s)
  else match cIZ (hd r) r.tail s with
   | none=>(some (14,(hd r).2.2.1),r,s)
   | some (some e,r',s')=>(some e,r',s')
   | some (none,r',s')=>bDZ f r' s'
theorem hLZ:∀ (f:Nat) (r:List L.Mark) (s:G),(bDZ f r s).2.1 <:+ r
 | 0,r,s=>List.suffix_rfl
 | f+1,r,s=>by
  rw [bDZ]
  split
  ·exact List.suffix_rfl
  ·split
   ·exact List.tail_suffix r
   ·split
    ·exact List.suffix_rfl
    ·rename_i e;exact (cjZ e).trans (List.tail_suffix r)
    ·rename_i e;exact (hLZ f _ _).trans ((cjZ e).trans (List.tail_suffix r))
theorem kVZ:E 100 [] [] (.tv [] (.mref .str .fnc) (some (1,0))) [((1,0),⟨⟨.mp .str .fnc,[(rpZ,(some 109:Option Nat)),(tuZ,some 110),(teZ,some 111),(rcZ,some 111),(uMZ,some 111),(rrZ,some 112)]⟩,[]⟩)]:=by
 refine arZ (udZ _ ?_)
 exact ⟨rfl,rfl⟩
section
variable {l r:List L.Mark} (s:G) (h:r <:+ l) (hl:l.length≤100000)
include h hl
theorem tHZ:E 83 [.op (0,0) []] (hR l r s) (erA (bDZ (r.length+1) r s).1) (erH l (bDZ (r.length+1) r s)):=by
 refine arZ (vfZ l _ s.tk s.sk s.lv s.st s.rl s.on s.tm s.lm _ ?_)
 refine ⟨⟨kVZ⟩,?_⟩
 refine ⟨fun l' i tk sk lv st rl on tm lm=>∃ f r' s',l'=l∧i=((l.length-r'.length:Nat):Int)∧tk=G.tk s'∧sk=s'.sk∧lv=s'.lv∧st=s'.st∧rl=s'.rl∧on=s'.on∧tm=s'.tm∧lm=s'.lm∧r' <:+ l∧r'.length<f∧bDZ f r' s'=bDZ (r.length+1) r s,
  fun _ i _ _ _ _ _ _ _ _=>l.length-i.toNat,⟨r.length+1,r,s,rfl,rfl,rfl,rfl,rfl,rfl,rfl,rfl,rfl,rfl,h,by omega,rfl⟩,?_⟩
 intro l' i tk sk lv st rl on tm lm ⟨f,r',s',e1,e2,e3,e4,e5,e6,e7,e8,e9,e10,hs,hf,hT⟩
 subst l' i tk sk lv st rl on tm lm
 obtain ⟨f,rfl⟩:∃ k,f=k+1:=⟨f-1,by omega⟩
 have hle:=hs.length_le
 have hst:=drZ hs
 ((repeat apply Exists.intro);refine And.intro (Need.mk (p6Z s' hs)) ?_)
 refine ⟨fun h2=>?_,fun h2=>?_⟩
 ·(simp only [dq1,dq2,dq3,dq4] at h2)
  have em:=mvR s' hs (by rw [h2];decide)
  have hpos:=gWZ (r:=r') (by rw [h2];decide)
  refine ⟨fun hp=>?_,fun hp=>?_⟩
  ·(simp only [dq1,dq2,dq3,dq4] at hp)
   rw [← hT,bDZ,if_neg (not_not_intro h2),if_pos hp]
   exact ⟨⟨by omega⟩,rfl,em⟩
  ·(simp only [dq1,dq2,dq3,dq4] at hp)
   have hD:bDZ (f+1) r' s'=match cIZ (hd r') r'.tail s' with
    | none=>(some (14,(hd r').2.2.1),r',s')
    | some (some e,r',s')=>(some e,r',s')
    | some (none,r',s')=>bDZ f r' s':=by rw [bDZ,if_neg (not_not_intro h2),if_neg hp]
   refine ⟨fun w0=>?_,fun n0=>?_⟩
   ·have hK:cIZ (hd r') r'.tail s'=some (cdZ r'.tail s'):=by rw [cIZ,if_pos w0]
    refine ⟨fun hk=>?_,fun hk=>⟨⟨by omega⟩,?_⟩⟩
    ·(simp only [dq1,dq2,dq3,dq4] at hk);exact (hk h2).elim
    have C:E 109 [.op (0,0) [],.tv [] d5Z (hd r')] (hRd l (((l.length-r'.length:Nat):Int)+1) s') (erA (cdZ r'.tail s').1) (erH l (cdZ r'.tail s')):=by rw [em];exact txZ (hd r') s' hst hl
    have hx:=cjZ hK
    rw [hK] at hD
    rcases ho:cdZ r'.tail s' with ⟨_ | e,r'',s''⟩
    ·rw [ho] at C hx hD
     simp only at hx hD
     have hle2:=hx.length_le
     rw [List.length_tail] at hle2
     refine .inr ?_
     ((repeat apply Exists.intro);refine And.intro (Need.mk (C)) ?_)
     refine ⟨⟨rfl⟩,⟨f,r'',s'',rfl,rfl,rfl,rfl,rfl,rfl,rfl,rfl,rfl,rfl,hx.trans hst,by omega,by rw [← hT,hD]⟩,⟨?_⟩⟩
     simp only [Int.toNat_natCast];omega
    ·obtain ⟨c,p⟩:=e
     rw [ho] at C hD
     refine .inl ?_
     ((repeat apply Exists.intro);refine And.intro (Need.mk (C)) ?_)
     rw [← hT,hD]
     exact ⟨rfl,rfl⟩
   refine ⟨fun w1=>?_,fun n1=>?_⟩
   ·have hK:cIZ (hd r') r'.tail s'=some (elZ (hd r') r'.tail s'):=by rw [cIZ,if_neg n0,if_pos w1]
    refine ⟨fun hk=>?_,fun hk=>⟨⟨by omega⟩,?_⟩⟩
    ·(simp only [dq1,dq2,dq3,dq4] at hk);exact (hk h2).elim
    have C:E 110 [.op (0,0) [],.tv [] d5Z (hd r')] (hRd l (((l.length-r'.length:Nat):Int)+1) s') (erA (elZ (hd r') r'.tail s').1) (erH l (elZ (hd r') r'.tail s')):=by rw [em];exact uoZ (hd r') s' hst hl
    have hx:=cjZ hK
    rw [hK] at hD
    rcases ho:elZ (hd r') r'.tail s' with ⟨_ | e,r'',s''⟩
    ·rw [ho] at C hx hD
     simp only at hx hD
     have hle2:=hx.length_le
     rw [List.length_tail] at hle2
     refine .inr ?_
     ((repeat apply Exists.intro);refine And.intro (Need.mk (C)) ?_)
     refine ⟨⟨rfl⟩,⟨f,r'',s'',rfl,rfl,rfl,rfl,rfl,rfl,rfl,rfl,rfl,rfl,hx.trans hst,by omega,by rw [← hT,hD]⟩,⟨?_⟩⟩
     simp only [Int.toNat_natCast];omega
    ·obtain ⟨c,p⟩:=e
     rw [ho] at C hD
     refine .inl ?_
     ((repeat apply Exists.intro);refine And.intro (Need.mk (C)) ?_)
     rw [← hT,hD]
     exact ⟨rfl,rfl⟩
   refine ⟨fun w2=>?_,fun n2=>?_⟩
   ·have hK:cIZ (hd r') r'.tail s'=some (bbZ (hd r') r'.tail s'):=by rw [cIZ,if_neg n0,if_neg n1,if_pos w2]
    refine ⟨fun hk=>?_,fun hk=>⟨⟨by omega⟩,?_⟩⟩
    ·(simp only [dq1,dq2,dq3,dq4] at hk);exact (hk h2).elim
    have C:E 111 [.op (0,0) [],.tv [] d5Z (hd r')] (hRd l (((l.length-r'.length:Nat):Int)+1) s') (erA (bbZ (hd r') r'.tail s').1) (erH l (bbZ (hd r') r'.tail s')):=by rw [em];exact n0Z (hd r') s' hst hl
    have hx:=cjZ hK
    rw [hK] at hD
    rcases ho:bbZ (hd r') r'.tail s' with ⟨_ | e,r'',s''⟩
    ·rw [ho] at C hx hD
     simp only at hx hD
     have hle2:=hx.length_le
     rw [List.length_tail] at hle2
     refine .inr ?_
     ((repeat apply Exists.intro);refine And.intro (Need.mk (C)) ?_)
     refine ⟨⟨rfl⟩,⟨f,r'',s'',rfl,rfl,rfl,rfl,rfl,rfl,rfl,rfl,rfl,rfl,hx.trans hst,by omega,by rw [← hT,hD]⟩,⟨?_⟩⟩
     simp only [Int.toNat_natCast];omega
    ·obtain ⟨c,p⟩:=e
     rw [ho] at C hD
     refine .inl ?_
     ((repeat apply Exists.intro);refine And.intro (Need.mk (C)) ?_)
     rw [← hT,hD]
     exact ⟨rfl,rfl⟩
   refine ⟨fun w3=>?_,fun n3=>?_⟩
   ·have hK:cIZ (hd r') r'.tail s'=some (bbZ (hd r') r'.tail s'):=by rw [cIZ,if_neg n0,if_neg n1,if_neg n2,if_pos w3]
    refine ⟨fun hk=>?_,fun hk=>⟨⟨by omega⟩,?_⟩⟩
    ·(simp only [dq1,dq2,dq3,dq4] at hk);exact (hk h2).elim
    have C:E 111 [.op (0,0) [],.tv [] d5Z (hd r')] (hRd l (((l.length-r'.length:Nat):Int)+1) s') (erA (bbZ (hd r') r'.tail s').1) (erH l (bbZ (hd r') r'.tail s')):=by rw [em];exact n0Z (hd r') s' hst hl
    have hx:=cjZ hK
    rw [hK] at hD
    rcases ho:bbZ (hd r') r'.tail s' with ⟨_ | e,r'',s''⟩
    ·rw [ho] at C hx hD
     simp only at hx hD
     have hle2:=hx.length_le
     rw [List.length_tail] at hle2
     refine .inr ?_
     ((repeat apply Exists.intro);refine And.intro (Need.mk (C)) ?_)
     refine ⟨⟨rfl⟩,⟨f,r'',s'',rfl,rfl,rfl,rfl,rfl,rfl,rfl,rfl,rfl,rfl,hx.trans hst,by omega,by rw [← hT,hD]⟩,⟨?_⟩⟩
     simp only [Int.toNat_natCast];omega
    ·obtain ⟨c,p⟩:=e
     rw [ho] at C hD
     refine .inl ?_
     ((repeat apply Exists.intro);refine And.intro (Need.mk (C)) ?_)
     rw [← hT,hD]
     exact ⟨rfl,rfl⟩
   refine ⟨fun w4=>?_,fun n4=>?_⟩
   ·have hK:cIZ (hd r') r'.tail s'=some (bbZ (hd r') r'.tail s'):=by rw [cIZ,if_neg n0,if_neg n1,if_neg n2,if_neg n3,if_pos w4]
    refine ⟨fun hk=>?_,fun hk=>⟨⟨by omega⟩,?_⟩⟩
    ·(simp only [dq1,dq2,dq3,dq4] at hk);exact (hk h2).elim
    have C:E 111 [.op (0,0) [],.tv [] d5Z (hd r')] (hRd l (((l.length-r'.length:Nat):Int)+1) s') (erA (bbZ (hd r') r'.tail s').1) (erH l (bbZ (hd r') r'.tail s')):=by rw [em];exact n0Z (hd r') s' hst hl
    have hx:=cjZ hK
    rw [hK] at hD
    rcases ho:bbZ (hd r') r'.tail s' with ⟨_ | e,r'',s''⟩
    ·rw [ho] at C hx hD
     simp only at hx hD
     have hle2:=hx.length_le
     rw [List.length_tail] at hle2
     refine .inr ?_
     ((repeat apply Exists.intro);refine And.intro (Need.mk (C)) ?_)
     refine ⟨⟨rfl⟩,⟨f,r'',s'',rfl,rfl,rfl,rfl,rfl,rfl,rfl,rfl,rfl,rfl,hx.trans hst,by omega,by rw [← hT,hD]⟩,⟨?_⟩⟩
     simp only [Int.toNat_natCast];omega
    ·obtain ⟨c,p⟩:=e
     rw [ho] at C hD
     refine .inl ?_
     ((repeat apply Exists.intro);refine And.intro (Need.mk (C)) ?_)
     rw [← hT,hD]
     exact ⟨rfl,rfl⟩
   refine ⟨fun w5=>?_,fun n5=>?_⟩
   ·have hK:cIZ (hd r') r'.tail s'=some (cNZ (hd r') r'.tail s'):=by rw [cIZ,if_neg n0,if_neg n1,if_neg n2,if_neg n3,if_neg n4,if_pos w5]
    refine ⟨fun hk=>?_,fun hk=>⟨⟨by omega⟩,?_⟩⟩
    ·(simp only [dq1,dq2,dq3,dq4] at hk);exact (hk h2).elim
    have C:E 112 [.op (0,0) [],.tv [] d5Z (hd r')] (hRd l (((l.length-r'.length:Nat):Int)+1) s') (erA (cNZ (hd r') r'.tail s').1) (erH l (cNZ (hd r') r'.tail s')):=by rw [em];exact tDZ (hd r') s' hst hl
    have hx:=cjZ hK
    rw [hK] at hD
    rcases ho:cNZ (hd r') r'.tail s' with ⟨_ | e,r'',s''⟩
    ·rw [ho] at C hx hD
     simp only at hx hD
     have hle2:=hx.length_le
     rw [List.length_tail] at hle2
     refine .inr ?_
     ((repeat apply Exists.intro);refine And.intro (Need.mk (C)) ?_)
     refine ⟨⟨rfl⟩,⟨f,r'',s'',rfl,rfl,rfl,rfl,rfl,rfl,rfl,rfl,rfl,rfl,hx.trans hst,by omega,by rw [← hT,hD]⟩,⟨?_⟩⟩
     simp only [Int.toNat_natCast];omega
    ·obtain ⟨c,p⟩:=e
     rw [ho] at C hD
     refine .inl ?_
     ((repeat apply Exists.intro);refine And.intro (Need.mk (C)) ?_)
     rw [← hT,hD]
     exact ⟨rfl,rfl⟩
   rw [cIZ,if_neg n0,if_neg n1,if_neg n2,if_neg n3,if_neg n4,if_neg n5] at hD
   refine ⟨fun _=>?_,fun hk=>?_⟩
   ·((repeat apply Exists.intro);refine And.intro (Need.mk (dpZ s' hs 14)) ?_)
    rw [← hT,hD]
    exact ⟨rfl,rfl⟩
   ·((repeat apply Exists.intro);refine And.intro (Need.mk (dpZ s' hs 14)) ?_)
    rw [← hT,hD]
    exact ⟨rfl,rfl⟩
 ·(simp only [dq1,dq2,dq3,dq4] at h2)
  have hD:bDZ (f+1) r' s'=(some (14,(hd r').2.2.1),r',s'):=by rw [bDZ,if_pos h2]
  have bad:∀ {p:Prop},decide ((hd r').1≠2)=false→p:=fun hk=>by (simp only [dq1,dq2,dq3,dq4] at hk);exact (hk h2).elim
  refine ⟨fun _=>⟨fun _=>?_,fun hk=>bad hk⟩,fun n0=>?_⟩
  ·((repeat apply Exists.intro);refine And.intro (Need.mk (dpZ s' hs 14)) ?_)
   rw [← hT,hD]
   exact ⟨rfl,rfl⟩
  refine ⟨fun _=>⟨fun _=>?_,fun hk=>bad hk⟩,fun n1=>?_⟩
  ·((repeat apply Exists.intro);refine And.intro (Need.mk (dpZ s' hs 14)) ?_)
   rw [← hT,hD]
   exact ⟨rfl,rfl⟩
  refine ⟨fun _=>⟨fun _=>?_,fun hk=>bad hk⟩,fun n2=>?_⟩
  ·((repeat apply Exists.intro);refine And.intro (Need.mk (dpZ s' hs 14)) ?_)
   rw [← hT,hD]
   exact ⟨rfl,rfl⟩
  refine ⟨fun _=>⟨fun _=>?_,fun hk=>bad hk⟩,fun n3=>?_⟩
  ·((repeat apply Exists.intro);refine And.intro (Need.mk (dpZ s' hs 14)) ?_)
   rw [← hT,hD]
   exact ⟨rfl,rfl⟩
  refine ⟨fun _=>⟨fun _=>?_,fun hk=>bad hk⟩,fun n4=>?_⟩
  ·((repeat apply Exists.intro);refine And.intro (Need.mk (dpZ s' hs 14)) ?_)
   rw [← hT,hD]
   exact ⟨rfl,rfl⟩
  refine ⟨fun _=>⟨fun _=>?_,fun hk=>bad hk⟩,fun n5=>?_⟩
  ·((repeat apply Exists.intro);refine And.intro (Need.mk (dpZ s' hs 14)) ?_)
   rw [← hT,hD]
   exact ⟨rfl,rfl⟩
  refine ⟨fun _=>?_,fun hk=>?_⟩
  ·((repeat apply Exists.intro);refine And.intro (Need.mk (dpZ s' hs 14)) ?_)
   rw [← hT,hD]
   exact ⟨rfl,rfl⟩
  ·((repeat apply Exists.intro);refine And.intro (Need.mk (dpZ s' hs 14)) ?_)
   rw [← hT,hD]
   exact ⟨rfl,rfl⟩
end
end Go.Am.N
