/-
  A part of the proof of a law: see the text that states it.
-/
import Derived.Test.YtggaihkjnomflaaDoorC
import Derived.Test.YtggaihkjnomflaaDoorLL2
import Derived.Test.YtggaihkjnomflaaDoorVc3
import Derived.Test.YtggaihkjnomflaaDoorVc8
import Derived.Test.YtggaihkjnomflaaDoorVc9
set_option linter.all false
namespace Go.Am.D
open Go Go.Am.Pr Go.Am.D.L
set_option maxRecDepth 100000
theorem tokenK_sfx (r:List L.Mark) (s:G):(tokenK r s).2.1 <:+ r:=by
 unfold tokenK
 split
 ·exact List.suffix_rfl
 ·split
  ·exact List.tail_suffix r
  ·split
   ·exact List.tail_suffix r
   ·split
    ·exact List.tail_suffix r
    ·rename_i hp;exact (patK_sfx hp).1.trans (List.tail_suffix r)
theorem skipK_sfx (w:L.Mark) (r:List L.Mark) (s:G):(skipK w r s).2.1 <:+ r:=by
 unfold skipK
 split
 ·exact List.suffix_rfl
 ·split
  ·exact List.suffix_rfl
  ·rename_i hp;exact (patK_sfx hp).1
theorem startK_sfx (w:L.Mark) (r:List L.Mark) (s:G):(startK w r s).2.1 <:+ r:=by
 unfold startK
 split
 ·exact List.suffix_rfl
 ·split
  ·exact List.tail_suffix r
  ·exact List.suffix_rfl
theorem namesK_sfx:∀ (r:List L.Mark) (ns:Ns) (lm:Mp),(namesK r ns lm).2.1 <:+ r
 | [],ns,lm=>by rw [namesK];split <;> exact List.suffix_rfl
 | m::r,ns,lm=>by
  rw [namesK]
  split
  ·split <;> exact List.suffix_rfl
  ·split
   ·exact List.suffix_cons m r
   ·exact (namesK_sfx r _ _).trans (List.suffix_cons m r)
theorem levelK_sfx (w:L.Mark) (r:List L.Mark) (s:G):(levelK w r s).2.1 <:+ r:=by
 unfold levelK
 have:=namesK_sfx r [] s.lm
 split
 ·exact List.suffix_rfl
 ·split
  ·rename_i e;rw [e] at this;exact this
  ·rename_i e;rw [e] at this;exact this
theorem rightK_sfx:∀ (r:List L.Mark) (ns:Ns),(rightK r ns).2.1 <:+ r
 | [],ns=>by rw [rightK];exact List.suffix_rfl
 | m::r,ns=>by
  rw [rightK]
  split
  ·exact List.suffix_rfl
  ·split
   ·exact List.suffix_rfl
   ·exact (rightK_sfx r _).trans (List.suffix_cons m r)
theorem actK_sfx (r:List L.Mark):(actK r).2 <:+ r:=by
 unfold actK;split
 ·exact List.tail_suffix r
 ·exact List.suffix_rfl
theorem altF_sfx (left:List Int) (ns:Ns) (r:List L.Mark) (s:G):(altF left ns r s).2.1 <:+ r:=by
 unfold altF
 split
 ·split
  ·exact (actK_sfx _).trans ((List.tail_suffix _).trans (List.tail_suffix r))
  ·exact List.tail_suffix r
 ·exact actK_sfx r
theorem altK_sfx (left:List Int) (r:List L.Mark) (s:G):(altK left r s).2.1 <:+ r:=by
 unfold altK
 have:=rightK_sfx r []
 split
 ·exact List.suffix_rfl
 ·split
  ·rename_i e;rw [e] at this;exact this
  ·rename_i e;rw [e] at this;exact (altF_sfx _ _ _ _).trans this
def altsK:Nat→List Int→List L.Mark→G→Out
 | 0,_,r,s=>(none,r,s)
 | f+1,left,r,s=>match altK left r s with
  | (some e,r',s')=>(some e,r',s')
  | (none,r',s')=>if (hd r').1=7 then altsK f left r'.tail s' else if (hd r').1=8 then (none,r'.tail,s') else (some (14,(hd r').2.2.1),r',s')
def ruleK (r:List L.Mark) (s:G):Out :=
 if (hd r).1=1 then (if (hd r.tail).1=6 then altsK (r.length+1) (hd r).2.1 r.tail.tail s else (some (14,(hd r.tail).2.2.1),r.tail,s))
 else (some (14,(hd r).2.2.1),r,s)
theorem altsK_sfx:∀ (f:Nat) (left:List Int) (r:List L.Mark) (s:G),(altsK f left r s).2.1 <:+ r
 | 0,_,r,s=>List.suffix_rfl
 | f+1,left,r,s=>by
  have:=altK_sfx left r s
  rw [altsK]
  split
  ·rename_i e;rw [e] at this;exact this
  ·rename_i e;rw [e] at this
   split
   ·exact (altsK_sfx f left _ _).trans ((List.tail_suffix _).trans this)
   ·split
    ·exact (List.tail_suffix _).trans this
    ·exact this
theorem ruleK_sfx (r:List L.Mark) (s:G):(ruleK r s).2.1 <:+ r:=by
 unfold ruleK
 split
 ·split
  ·exact (altsK_sfx _ _ _ _).trans ((List.tail_suffix _).trans (List.tail_suffix r))
  ·exact List.tail_suffix r
 ·exact List.suffix_rfl
section
variable {l r:List L.Mark} (s:G) (h:r <:+ l) (hl:l.length≤100000)
include h hl
theorem ruleR:E 74 [.op (0,0) []] (hR l r s) (erA (ruleK r s).1) (erH l (ruleK r s)):=by
 refine ev_of (vc74 l _ s.tk s.sk s.lv s.st s.rl s.on s.tm s.lm _ ?_)
 have hle0:=h.length_le
 have hst:=sfx_tl h
 by_cases h1:(hd r).1=1
 ·rw [ruleK,if_pos h1]
  refine .inr ?_
  ((repeat apply Exists.intro);refine And.intro (Need.mk (takeR s h (by decide) h1 hl)) ?_)
  by_cases h2:(hd r.tail).1=6
  ·rw [if_pos h2]
   refine .inr ?_
   ((repeat apply Exists.intro);refine And.intro (Need.mk (takeR s hst (by decide) h2 hl)) ?_)
   have hstt:=sfx_tl hst
   have hlr:=hd_ne (r:=r) (by rw [h1];decide)
   refine ⟨fun l' i tk sk lv st rl on tm lm=>∃ f r' s',l'=l∧i=((l.length-r'.length:Nat):Int)∧tk=G.tk s'∧sk=s'.sk∧lv=s'.lv∧st=s'.st∧rl=s'.rl∧on=s'.on∧tm=s'.tm∧lm=s'.lm∧r' <:+ l∧r'.length<f∧altsK f (hd r).2.1 r' s'=altsK (r.length+1) (hd r).2.1 r.tail.tail s,
    fun _ i _ _ _ _ _ _ _ _=>l.length-i.toNat,⟨r.length+1,r.tail.tail,s,rfl,rfl,rfl,rfl,rfl,rfl,rfl,rfl,rfl,rfl,hstt,?_,rfl⟩,?_⟩
   ·simp only [List.length_tail];omega
   intro l' i tk sk lv st rl on tm lm ⟨f,r',s',e1,e2,e3,e4,e5,e6,e7,e8,e9,e10,hs,hf,hT⟩
   subst l' i tk sk lv st rl on tm lm
   obtain ⟨f,rfl⟩:∃ k,f=k+1:=⟨f-1,by omega⟩
   rw [← hT,altsK]
   have C:=altR (hd r).2.1 s' hs hl
   have hx:=altK_sfx (hd r).2.1 r' s'
   have hle:=hs.length_le
   rcases ho:altK (hd r).2.1 r' s' with ⟨_ | e,r'',s''⟩
   ·rw [ho] at C hx
    simp only at hx ⊢
    have hs2:=hx.trans hs
    have hle2:=hx.length_le
    refine .inr ?_
    ((repeat apply Exists.intro);refine And.intro (Need.mk (C)) ?_)
    ((repeat apply Exists.intro);refine And.intro (Need.mk (isR s'' hs2 7 (by decide))) ?_)
    refine ⟨fun h7=>?_,fun h7=>?_⟩
    ·(simp only [decide_eq_true_eq,decide_eq_false_iff_not,Bool.not_eq_true',Bool.not_eq_false'] at h7)
     rw [if_neg h7]
     by_cases h8:(hd r'').1=8
     ·rw [if_pos h8]
      refine .inr ?_
      ((repeat apply Exists.intro);refine And.intro (Need.mk (takeR s'' hs2 (by decide) h8 hl)) ?_)
      exact ⟨rfl,rfl⟩
     ·rw [if_neg h8]
      refine .inl ?_
      ((repeat apply Exists.intro);refine And.intro (Need.mk (takeN s'' hs2 h8)) ?_)
      exact ⟨rfl,rfl⟩
    ·(simp only [decide_eq_true_eq,decide_eq_false_iff_not,Bool.not_eq_true',Bool.not_eq_false'] at h7)
     have hle3:=hs2.length_le
     have hsl:=sfx_len hs2 (by rw [h7];decide)
     have hpos:=hd_ne (r:=r'') (by rw [h7];decide)
     refine ⟨⟨by omega⟩,⟨f,r''.tail,s'',rfl,?_,rfl,rfl,rfl,rfl,rfl,rfl,rfl,rfl,sfx_tl hs2,?_,?_⟩,⟨?_⟩⟩
     ·rw [hsl];rfl
     ·rw [List.length_tail];omega
     ·rw [if_pos h7]
     ·simp only [Int.toNat_natCast];omega
   ·obtain ⟨c,p⟩:=e
    rw [ho] at C
    refine .inl ?_
    ((repeat apply Exists.intro);refine And.intro (Need.mk (C)) ?_)
    exact ⟨rfl,rfl⟩
  ·rw [if_neg h2]
   refine .inl ?_
   ((repeat apply Exists.intro);refine And.intro (Need.mk (takeN s hst h2)) ?_)
   refine ⟨fun d0 d1 d2 l' i tk sk lv st rl on tm lm=>d0=14∧d1=(hd r.tail).2.2.1.1∧d2=(hd r.tail).2.2.1.2.1∧l'=l∧i=((l.length-r.tail.length:Nat):Int)∧tk=s.tk∧sk=s.sk∧lv=s.lv∧st=s.st∧rl=s.rl∧on=s.on∧tm=s.tm∧lm=s.lm,fun _ _ _ _ _ _ _ _ _ _ _ _ _=>0,⟨rfl,rfl,rfl,rfl,rfl,rfl,rfl,rfl,rfl,rfl,rfl,rfl,rfl⟩,?_⟩
   intro d0 d1 d2 l' i tk sk lv st rl on tm lm ⟨e1,e2,e3,e4,e5,e6,e7,e8,e9,e10,e11,e12,e13⟩
   subst d0 d1 d2 l' i tk sk lv st rl on tm lm
   exact ⟨rfl,rfl⟩
 ·rw [ruleK,if_neg h1]
  refine .inl ?_
  ((repeat apply Exists.intro);refine And.intro (Need.mk (takeN s h h1)) ?_)
  refine ⟨fun d0 d1 d2 l' i tk sk lv st rl on tm lm=>d0=14∧d1=(hd r).2.2.1.1∧d2=(hd r).2.2.1.2.1∧l'=l∧i=((l.length-r.length:Nat):Int)∧tk=s.tk∧sk=s.sk∧lv=s.lv∧st=s.st∧rl=s.rl∧on=s.on∧tm=s.tm∧lm=s.lm,fun _ _ _ _ _ _ _ _ _ _ _ _ _=>0,⟨rfl,rfl,rfl,rfl,rfl,rfl,rfl,rfl,rfl,rfl,rfl,rfl,rfl⟩,?_⟩
  intro d0 d1 d2 l' i tk sk lv st rl on tm lm ⟨e1,e2,e3,e4,e5,e6,e7,e8,e9,e10,e11,e12,e13⟩
  subst d0 d1 d2 l' i tk sk lv st rl on tm lm
  exact ⟨rfl,rfl⟩
end
abbrev tokenT:List Int:=[116,111,107,101,110]
abbrev skipT:List Int:=[115,107,105,112]
abbrev leftT:List Int:=[108,101,102,116]
abbrev rightT:List Int:=[114,105,103,104,116]
abbrev nonT:List Int:=[110,111,110,97,115,115,111,99]
abbrev startT:List Int:=[115,116,97,114,116]
def declK (m:L.Mark) (r:List L.Mark) (s:G):Option Out :=
 if m.2.1=tokenT then some (tokenK r s) else if m.2.1=skipT then some (skipK m r s) else if m.2.1=leftT then some (levelK m r s)
 else if m.2.1=rightT then some (levelK m r s) else if m.2.1=nonT then some (levelK m r s) else if m.2.1=startT then some (startK m r s) else none
theorem declK_sfx {m:L.Mark} {r:List L.Mark} {s:G} {o:Out} (h:declK m r s=some o):o.2.1 <:+ r:=by
 unfold declK at h
 split at h;· cases h;exact tokenK_sfx r s
 split at h;· cases h;exact skipK_sfx m r s
 split at h;· cases h;exact levelK_sfx m r s
 split at h;· cases h;exact levelK_sfx m r s
 split at h;· cases h;exact levelK_sfx m r s
 split at h;· cases h;exact startK_sfx m r s
 cases h
def declsK:Nat→List L.Mark→G→Out
 | 0,r,s=>(none,r,s)
 | f+1,r,s=>if (hd r).1≠2 then (some (14,(hd r).2.2.1),r,s)
  else if (hd r).2.1=[37] then (none,r.tail,s)
  else match declK (hd r) r.tail s with
   | none=>(some (14,(hd r).2.2.1),r,s)
   | some (some e,r',s')=>(some e,r',s')
   | some (none,r',s')=>declsK f r' s'
theorem declsK_sfx:∀ (f:Nat) (r:List L.Mark) (s:G),(declsK f r s).2.1 <:+ r
 | 0,r,s=>List.suffix_rfl
 | f+1,r,s=>by
  rw [declsK]
  split
  ·exact List.suffix_rfl
  ·split
   ·exact List.tail_suffix r
   ·split
    ·exact List.suffix_rfl
    ·rename_i e;exact (declK_sfx e).trans (List.tail_suffix r)
    ·rename_i e;exact (declsK_sfx f _ _).trans ((declK_sfx e).trans (List.tail_suffix r))
theorem declares_ev:E 87 [] [] (.tv [] (.mref .str .fnc) (some (1,0))) [((1,0),⟨⟨.mp .str .fnc,[(tokenT,(some 94:Option Nat)),(skipT,some 95),(leftT,some 96),(rightT,some 96),(nonT,some 96),(startT,some 97)]⟩,[]⟩)]:=by
 refine ev_of (vc87 _ ?_)
 exact ⟨rfl,rfl⟩
section
variable {l r:List L.Mark} (s:G) (h:r <:+ l) (hl:l.length≤100000)
include h hl
theorem declsR:E 72 [.op (0,0) []] (hR l r s) (erA (declsK (r.length+1) r s).1) (erH l (declsK (r.length+1) r s)):=by
 refine ev_of (vc72 l _ s.tk s.sk s.lv s.st s.rl s.on s.tm s.lm _ ?_)
 refine ⟨⟨declares_ev⟩,?_⟩
 refine ⟨fun l' i tk sk lv st rl on tm lm=>∃ f r' s',l'=l∧i=((l.length-r'.length:Nat):Int)∧tk=G.tk s'∧sk=s'.sk∧lv=s'.lv∧st=s'.st∧rl=s'.rl∧on=s'.on∧tm=s'.tm∧lm=s'.lm∧r' <:+ l∧r'.length<f∧declsK f r' s'=declsK (r.length+1) r s,
  fun _ i _ _ _ _ _ _ _ _=>l.length-i.toNat,⟨r.length+1,r,s,rfl,rfl,rfl,rfl,rfl,rfl,rfl,rfl,rfl,rfl,h,by omega,rfl⟩,?_⟩
 intro l' i tk sk lv st rl on tm lm ⟨f,r',s',e1,e2,e3,e4,e5,e6,e7,e8,e9,e10,hs,hf,hT⟩
 subst l' i tk sk lv st rl on tm lm
 obtain ⟨f,rfl⟩:∃ k,f=k+1:=⟨f-1,by omega⟩
 have hle:=hs.length_le
 have hst:=sfx_tl hs
 ((repeat apply Exists.intro);refine And.intro (Need.mk (nowR s' hs)) ?_)
 refine ⟨fun h2=>?_,fun h2=>?_⟩
 ·(simp only [decide_eq_true_eq,decide_eq_false_iff_not,Bool.not_eq_true',Bool.not_eq_false'] at h2)
  have em:=mvR s' hs (by rw [h2];decide)
  have hpos:=hd_ne (r:=r') (by rw [h2];decide)
  refine ⟨fun hp=>?_,fun hp=>?_⟩
  ·(simp only [decide_eq_true_eq,decide_eq_false_iff_not,Bool.not_eq_true',Bool.not_eq_false'] at hp)
   rw [← hT,declsK,if_neg (not_not_intro h2),if_pos hp]
   exact ⟨⟨by omega⟩,rfl,em⟩
  ·(simp only [decide_eq_true_eq,decide_eq_false_iff_not,Bool.not_eq_true',Bool.not_eq_false'] at hp)
   have hD:declsK (f+1) r' s'=match declK (hd r') r'.tail s' with
    | none=>(some (14,(hd r').2.2.1),r',s')
    | some (some e,r',s')=>(some e,r',s')
    | some (none,r',s')=>declsK f r' s':=by rw [declsK,if_neg (not_not_intro h2),if_neg hp]
   refine ⟨fun w0=>?_,fun n0=>?_⟩
   ·have hK:declK (hd r') r'.tail s'=some (tokenK r'.tail s'):=by rw [declK,if_pos w0]
    refine ⟨fun hk=>?_,fun hk=>⟨⟨by omega⟩,?_⟩⟩
    ·(simp only [decide_eq_true_eq,decide_eq_false_iff_not,Bool.not_eq_true',Bool.not_eq_false'] at hk);exact (hk h2).elim
    have C:E 94 [.op (0,0) [],.tv [] TMark (hd r')] (hRd l (((l.length-r'.length:Nat):Int)+1) s') (erA (tokenK r'.tail s').1) (erH l (tokenK r'.tail s')):=by rw [em];exact tokenR (hd r') s' hst hl
    have hx:=declK_sfx hK
    rw [hK] at hD
    rcases ho:tokenK r'.tail s' with ⟨_ | e,r'',s''⟩
    ·rw [ho] at C hx hD
     simp only at hx hD
     have hle2:=hx.length_le
     rw [List.length_tail] at hle2
     refine .inr ?_
     ((repeat apply Exists.intro);refine And.intro (Need.mk (C)) ?_)
     refine ⟨⟨rfl⟩,⟨f,r'',s'',rfl,rfl,rfl,rfl,rfl,rfl,rfl,rfl,rfl,rfl,hx.trans hst,by omega,by rw [← hT,hD]⟩,⟨?_⟩⟩
     simp only [Int.toNat_natCast];omega
    ·obtain ⟨c,p⟩:=e
     rw [ho] at C hD
     refine .inl ?_
     ((repeat apply Exists.intro);refine And.intro (Need.mk (C)) ?_)
     rw [← hT,hD]
     exact ⟨rfl,rfl⟩
   refine ⟨fun w1=>?_,fun n1=>?_⟩
   ·have hK:declK (hd r') r'.tail s'=some (skipK (hd r') r'.tail s'):=by rw [declK,if_neg n0,if_pos w1]
    refine ⟨fun hk=>?_,fun hk=>⟨⟨by omega⟩,?_⟩⟩
    ·(simp only [decide_eq_true_eq,decide_eq_false_iff_not,Bool.not_eq_true',Bool.not_eq_false'] at hk);exact (hk h2).elim
    have C:E 95 [.op (0,0) [],.tv [] TMark (hd r')] (hRd l (((l.length-r'.length:Nat):Int)+1) s') (erA (skipK (hd r') r'.tail s').1) (erH l (skipK (hd r') r'.tail s')):=by rw [em];exact skipR (hd r') s' hst hl
    have hx:=declK_sfx hK
    rw [hK] at hD
    rcases ho:skipK (hd r') r'.tail s' with ⟨_ | e,r'',s''⟩
    ·rw [ho] at C hx hD
     simp only at hx hD
     have hle2:=hx.length_le
     rw [List.length_tail] at hle2
     refine .inr ?_
     ((repeat apply Exists.intro);refine And.intro (Need.mk (C)) ?_)
     refine ⟨⟨rfl⟩,⟨f,r'',s'',rfl,rfl,rfl,rfl,rfl,rfl,rfl,rfl,rfl,rfl,hx.trans hst,by omega,by rw [← hT,hD]⟩,⟨?_⟩⟩
     simp only [Int.toNat_natCast];omega
    ·obtain ⟨c,p⟩:=e
     rw [ho] at C hD
     refine .inl ?_
     ((repeat apply Exists.intro);refine And.intro (Need.mk (C)) ?_)
     rw [← hT,hD]
     exact ⟨rfl,rfl⟩
   refine ⟨fun w2=>?_,fun n2=>?_⟩
   ·have hK:declK (hd r') r'.tail s'=some (levelK (hd r') r'.tail s'):=by rw [declK,if_neg n0,if_neg n1,if_pos w2]
    refine ⟨fun hk=>?_,fun hk=>⟨⟨by omega⟩,?_⟩⟩
    ·(simp only [decide_eq_true_eq,decide_eq_false_iff_not,Bool.not_eq_true',Bool.not_eq_false'] at hk);exact (hk h2).elim
    have C:E 96 [.op (0,0) [],.tv [] TMark (hd r')] (hRd l (((l.length-r'.length:Nat):Int)+1) s') (erA (levelK (hd r') r'.tail s').1) (erH l (levelK (hd r') r'.tail s')):=by rw [em];exact levelR (hd r') s' hst hl
    have hx:=declK_sfx hK
    rw [hK] at hD
    rcases ho:levelK (hd r') r'.tail s' with ⟨_ | e,r'',s''⟩
    ·rw [ho] at C hx hD
     simp only at hx hD
     have hle2:=hx.length_le
     rw [List.length_tail] at hle2
     refine .inr ?_
     ((repeat apply Exists.intro);refine And.intro (Need.mk (C)) ?_)
     refine ⟨⟨rfl⟩,⟨f,r'',s'',rfl,rfl,rfl,rfl,rfl,rfl,rfl,rfl,rfl,rfl,hx.trans hst,by omega,by rw [← hT,hD]⟩,⟨?_⟩⟩
     simp only [Int.toNat_natCast];omega
    ·obtain ⟨c,p⟩:=e
     rw [ho] at C hD
     refine .inl ?_
     ((repeat apply Exists.intro);refine And.intro (Need.mk (C)) ?_)
     rw [← hT,hD]
     exact ⟨rfl,rfl⟩
   refine ⟨fun w3=>?_,fun n3=>?_⟩
   ·have hK:declK (hd r') r'.tail s'=some (levelK (hd r') r'.tail s'):=by rw [declK,if_neg n0,if_neg n1,if_neg n2,if_pos w3]
    refine ⟨fun hk=>?_,fun hk=>⟨⟨by omega⟩,?_⟩⟩
    ·(simp only [decide_eq_true_eq,decide_eq_false_iff_not,Bool.not_eq_true',Bool.not_eq_false'] at hk);exact (hk h2).elim
    have C:E 96 [.op (0,0) [],.tv [] TMark (hd r')] (hRd l (((l.length-r'.length:Nat):Int)+1) s') (erA (levelK (hd r') r'.tail s').1) (erH l (levelK (hd r') r'.tail s')):=by rw [em];exact levelR (hd r') s' hst hl
    have hx:=declK_sfx hK
    rw [hK] at hD
    rcases ho:levelK (hd r') r'.tail s' with ⟨_ | e,r'',s''⟩
    ·rw [ho] at C hx hD
     simp only at hx hD
     have hle2:=hx.length_le
     rw [List.length_tail] at hle2
     refine .inr ?_
     ((repeat apply Exists.intro);refine And.intro (Need.mk (C)) ?_)
     refine ⟨⟨rfl⟩,⟨f,r'',s'',rfl,rfl,rfl,rfl,rfl,rfl,rfl,rfl,rfl,rfl,hx.trans hst,by omega,by rw [← hT,hD]⟩,⟨?_⟩⟩
     simp only [Int.toNat_natCast];omega
    ·obtain ⟨c,p⟩:=e
     rw [ho] at C hD
     refine .inl ?_
     ((repeat apply Exists.intro);refine And.intro (Need.mk (C)) ?_)
     rw [← hT,hD]
     exact ⟨rfl,rfl⟩
   refine ⟨fun w4=>?_,fun n4=>?_⟩
   ·have hK:declK (hd r') r'.tail s'=some (levelK (hd r') r'.tail s'):=by rw [declK,if_neg n0,if_neg n1,if_neg n2,if_neg n3,if_pos w4]
    refine ⟨fun hk=>?_,fun hk=>⟨⟨by omega⟩,?_⟩⟩
    ·(simp only [decide_eq_true_eq,decide_eq_false_iff_not,Bool.not_eq_true',Bool.not_eq_false'] at hk);exact (hk h2).elim
    have C:E 96 [.op (0,0) [],.tv [] TMark (hd r')] (hRd l (((l.length-r'.length:Nat):Int)+1) s') (erA (levelK (hd r') r'.tail s').1) (erH l (levelK (hd r') r'.tail s')):=by rw [em];exact levelR (hd r') s' hst hl
    have hx:=declK_sfx hK
    rw [hK] at hD
    rcases ho:levelK (hd r') r'.tail s' with ⟨_ | e,r'',s''⟩
    ·rw [ho] at C hx hD
     simp only at hx hD
     have hle2:=hx.length_le
     rw [List.length_tail] at hle2
     refine .inr ?_
     ((repeat apply Exists.intro);refine And.intro (Need.mk (C)) ?_)
     refine ⟨⟨rfl⟩,⟨f,r'',s'',rfl,rfl,rfl,rfl,rfl,rfl,rfl,rfl,rfl,rfl,hx.trans hst,by omega,by rw [← hT,hD]⟩,⟨?_⟩⟩
     simp only [Int.toNat_natCast];omega
    ·obtain ⟨c,p⟩:=e
     rw [ho] at C hD
     refine .inl ?_
     ((repeat apply Exists.intro);refine And.intro (Need.mk (C)) ?_)
     rw [← hT,hD]
     exact ⟨rfl,rfl⟩
   refine ⟨fun w5=>?_,fun n5=>?_⟩
   ·have hK:declK (hd r') r'.tail s'=some (startK (hd r') r'.tail s'):=by rw [declK,if_neg n0,if_neg n1,if_neg n2,if_neg n3,if_neg n4,if_pos w5]
    refine ⟨fun hk=>?_,fun hk=>⟨⟨by omega⟩,?_⟩⟩
    ·(simp only [decide_eq_true_eq,decide_eq_false_iff_not,Bool.not_eq_true',Bool.not_eq_false'] at hk);exact (hk h2).elim
    have C:E 97 [.op (0,0) [],.tv [] TMark (hd r')] (hRd l (((l.length-r'.length:Nat):Int)+1) s') (erA (startK (hd r') r'.tail s').1) (erH l (startK (hd r') r'.tail s')):=by rw [em];exact startR (hd r') s' hst hl
    have hx:=declK_sfx hK
    rw [hK] at hD
    rcases ho:startK (hd r') r'.tail s' with ⟨_ | e,r'',s''⟩
    ·rw [ho] at C hx hD
     simp only at hx hD
     have hle2:=hx.length_le
     rw [List.length_tail] at hle2
     refine .inr ?_
     ((repeat apply Exists.intro);refine And.intro (Need.mk (C)) ?_)
     refine ⟨⟨rfl⟩,⟨f,r'',s'',rfl,rfl,rfl,rfl,rfl,rfl,rfl,rfl,rfl,rfl,hx.trans hst,by omega,by rw [← hT,hD]⟩,⟨?_⟩⟩
     simp only [Int.toNat_natCast];omega
    ·obtain ⟨c,p⟩:=e
     rw [ho] at C hD
     refine .inl ?_
     ((repeat apply Exists.intro);refine And.intro (Need.mk (C)) ?_)
     rw [← hT,hD]
     exact ⟨rfl,rfl⟩
   rw [declK,if_neg n0,if_neg n1,if_neg n2,if_neg n3,if_neg n4,if_neg n5] at hD
   refine ⟨fun _=>?_,fun hk=>?_⟩
   ·((repeat apply Exists.intro);refine And.intro (Need.mk (wrongR s' hs 14)) ?_)
    rw [← hT,hD]
    exact ⟨rfl,rfl⟩
   ·((repeat apply Exists.intro);refine And.intro (Need.mk (wrongR s' hs 14)) ?_)
    rw [← hT,hD]
    exact ⟨rfl,rfl⟩
 ·(simp only [decide_eq_true_eq,decide_eq_false_iff_not,Bool.not_eq_true',Bool.not_eq_false'] at h2)
  have hD:declsK (f+1) r' s'=(some (14,(hd r').2.2.1),r',s'):=by rw [declsK,if_pos h2]
  have bad:∀ {p:Prop},decide ((hd r').1≠2)=false→p:=fun hk=>by (simp only [decide_eq_true_eq,decide_eq_false_iff_not,Bool.not_eq_true',Bool.not_eq_false'] at hk);exact (hk h2).elim
  refine ⟨fun _=>⟨fun _=>?_,fun hk=>bad hk⟩,fun n0=>?_⟩
  ·((repeat apply Exists.intro);refine And.intro (Need.mk (wrongR s' hs 14)) ?_)
   rw [← hT,hD]
   exact ⟨rfl,rfl⟩
  refine ⟨fun _=>⟨fun _=>?_,fun hk=>bad hk⟩,fun n1=>?_⟩
  ·((repeat apply Exists.intro);refine And.intro (Need.mk (wrongR s' hs 14)) ?_)
   rw [← hT,hD]
   exact ⟨rfl,rfl⟩
  refine ⟨fun _=>⟨fun _=>?_,fun hk=>bad hk⟩,fun n2=>?_⟩
  ·((repeat apply Exists.intro);refine And.intro (Need.mk (wrongR s' hs 14)) ?_)
   rw [← hT,hD]
   exact ⟨rfl,rfl⟩
  refine ⟨fun _=>⟨fun _=>?_,fun hk=>bad hk⟩,fun n3=>?_⟩
  ·((repeat apply Exists.intro);refine And.intro (Need.mk (wrongR s' hs 14)) ?_)
   rw [← hT,hD]
   exact ⟨rfl,rfl⟩
  refine ⟨fun _=>⟨fun _=>?_,fun hk=>bad hk⟩,fun n4=>?_⟩
  ·((repeat apply Exists.intro);refine And.intro (Need.mk (wrongR s' hs 14)) ?_)
   rw [← hT,hD]
   exact ⟨rfl,rfl⟩
  refine ⟨fun _=>⟨fun _=>?_,fun hk=>bad hk⟩,fun n5=>?_⟩
  ·((repeat apply Exists.intro);refine And.intro (Need.mk (wrongR s' hs 14)) ?_)
   rw [← hT,hD]
   exact ⟨rfl,rfl⟩
  refine ⟨fun _=>?_,fun hk=>?_⟩
  ·((repeat apply Exists.intro);refine And.intro (Need.mk (wrongR s' hs 14)) ?_)
   rw [← hT,hD]
   exact ⟨rfl,rfl⟩
  ·((repeat apply Exists.intro);refine And.intro (Need.mk (wrongR s' hs 14)) ?_)
   rw [← hT,hD]
   exact ⟨rfl,rfl⟩
end
end Go.Am.D
