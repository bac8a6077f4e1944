/-
  A part of the proof of a law: see the text that states it.
-/
import Derived.Test.YtggaihkjnomflaaDoorD
import Derived.Test.YtggaihkjnomflaaDoorVc8
set_option linter.all false
namespace Go.Am.D
open Go Go.Am.Pr Go.Am.D.L
set_option maxRecDepth 100000
theorem tail_lt {r:List L.Mark} (h:(hd r).1≠0):r.tail.length<r.length:=by
 have:=hd_ne h;rw [List.length_tail];omega
theorem ruleK_lt {r r':List L.Mark} {s s':G} (h:ruleK r s=(none,r',s')):r'.length<r.length:=by
 unfold ruleK at h
 split at h
 ·rename_i h1
  have h3:=tail_lt (r:=r) (by rw [h1];decide)
  split at h
  ·have:=(altsK_sfx (r.length+1) (hd r).2.1 r.tail.tail s).length_le
   rw [h] at this
   simp only [List.length_tail] at this h3;omega
  ·cases h
 ·cases h
def rulesK:Nat→List L.Mark→G→Out
 | 0,r,s=>(none,r,s)
 | f+1,r,s=>if s.rl=[]∨(hd r).1≠0 then (match ruleK r s with
  | (some e,r',s')=>(some e,r',s')
  | (none,r',s')=>rulesK f r' s') else (none,r,s)
theorem rulesK_rl:∀ (f:Nat) (r r':List L.Mark) (s s':G),r.length<f→rulesK f r s=(none,r',s')→s'.rl≠[]
 | 0,_,_,_,_,h,_=>absurd h (Nat.not_lt_zero _)
 | f+1,r,r',s,s',h,e=>by
  rw [rulesK] at e
  split at e
  ·rcases hr:ruleK r s with ⟨_ | c,r2,s2⟩
   ·rw [hr] at e
    have:=ruleK_lt hr
    exact rulesK_rl f r2 r' s2 s' (by omega) e
   ·rw [hr] at e;cases e
  ·rename_i hc
   cases e
   exact fun q=>hc (.inl q)
def allK (r:List L.Mark) (s:G):Out:=match declsK (r.length+1) r s with
 | (some e,r',s')=>(some e,r',s')
 | (none,r',s')=>rulesK (r'.length+1) r' s'
section
variable {l r:List L.Mark} (s:G) (h:r <:+ l) (hl:l.length≤100000)
include h hl
theorem allR:E 48 [.op (0,0) []] (hR l r s) (erA (allK r s).1) (erH l (allK r s)):=by
 refine ev_of (vc48 l _ s.tk s.sk s.lv s.st s.rl s.on s.tm s.lm _ ?_)
 have C:=declsR s h hl
 have hx:=declsK_sfx (r.length+1) r s
 rw [allK]
 rcases ho:declsK (r.length+1) r s with ⟨_ | e,r0,s0⟩
 ·rw [ho] at C hx
  simp only at hx ⊢
  have h0:=hx.trans h
  refine .inr ?_
  ((repeat apply Exists.intro);refine And.intro (Need.mk (C)) ?_)
  refine ⟨fun l' i tk sk lv st rl on tm lm=>∃ f r' s',l'=l∧i=((l.length-r'.length:Nat):Int)∧tk=G.tk s'∧sk=s'.sk∧lv=s'.lv∧st=s'.st∧rl=s'.rl∧on=s'.on∧tm=s'.tm∧lm=s'.lm∧r' <:+ l∧r'.length<f∧rulesK f r' s'=rulesK (r0.length+1) r0 s0,
   fun _ i _ _ _ _ _ _ _ _=>l.length-i.toNat,⟨r0.length+1,r0,s0,rfl,rfl,rfl,rfl,rfl,rfl,rfl,rfl,rfl,rfl,h0,by omega,rfl⟩,?_⟩
  intro l' i tk sk lv st rl on tm lm ⟨f,r',s',e1,e2,e3,e4,e5,e6,e7,e8,e9,e10,hs,hf,hT⟩
  subst l' i tk sk lv st rl on tm lm
  obtain ⟨f,rfl⟩:∃ k,f=k+1:=⟨f-1,by omega⟩
  have hle:=hs.length_le
  have CR:=ruleR s' hs hl
  have hxr:=ruleK_sfx r' s'
  have go:∀ (hc:s'.rl=[]∨(hd r').1≠0),rulesK (f+1) r' s'=match ruleK r' s' with
   | (some e,r',s')=>(some e,r',s')
   | (none,r',s')=>rulesK f r' s':=fun hc=>by rw [rulesK,if_pos hc]
  refine ⟨fun h1=>?_,fun h1=>⟨fun h2=>?_,fun h2=>?_⟩⟩
  ·(simp only [decide_eq_true_eq,decide_eq_false_iff_not,Bool.not_eq_true',Bool.not_eq_false'] at h1)
   have hg:=go (.inl (List.eq_nil_of_length_eq_zero (by omega)))
   rcases hr:ruleK r' s' with ⟨_ | e,r2,s2⟩
   ·have hlt:=ruleK_lt hr
    rw [hr] at CR hxr hg
    simp only at hxr hg
    refine .inr ?_
    ((repeat apply Exists.intro);refine And.intro (Need.mk (CR)) ?_)
    refine ⟨⟨f,r2,s2,rfl,rfl,rfl,rfl,rfl,rfl,rfl,rfl,rfl,rfl,hxr.trans hs,by omega,by rw [← hT,hg]⟩,⟨?_⟩⟩
    simp only [Int.toNat_natCast];omega
   ·obtain ⟨c,p⟩:=e
    rw [hr] at CR hg
    refine .inl ?_
    ((repeat apply Exists.intro);refine And.intro (Need.mk (CR)) ?_)
    rw [← hT,hg]
    exact ⟨rfl,rfl⟩
  ·(simp only [decide_eq_true_eq,decide_eq_false_iff_not,Bool.not_eq_true',Bool.not_eq_false'] at h1);(simp only [decide_eq_true_eq,decide_eq_false_iff_not,Bool.not_eq_true',Bool.not_eq_false'] at h2)
   ((repeat apply Exists.intro);refine And.intro (Need.mk (nowR s' hs)) ?_)
   refine ⟨fun h3=>?_,fun h3=>?_⟩
   ·(simp only [decide_eq_true_eq,decide_eq_false_iff_not,Bool.not_eq_true',Bool.not_eq_false'] at h3)
    have hg:=go (.inr h3)
    rcases hr:ruleK r' s' with ⟨_ | e,r2,s2⟩
    ·have hlt:=ruleK_lt hr
     rw [hr] at CR hxr hg
     simp only at hxr hg
     refine .inr ?_
     ((repeat apply Exists.intro);refine And.intro (Need.mk (CR)) ?_)
     refine ⟨⟨f,r2,s2,rfl,rfl,rfl,rfl,rfl,rfl,rfl,rfl,rfl,rfl,hxr.trans hs,by omega,by rw [← hT,hg]⟩,⟨?_⟩⟩
     simp only [Int.toNat_natCast];omega
    ·obtain ⟨c,p⟩:=e
     rw [hr] at CR hg
     refine .inl ?_
     ((repeat apply Exists.intro);refine And.intro (Need.mk (CR)) ?_)
     rw [← hT,hg]
     exact ⟨rfl,rfl⟩
   ·(simp only [decide_eq_true_eq,decide_eq_false_iff_not,Bool.not_eq_true',Bool.not_eq_false'] at h3)
    have h3:(hd r').1=0:=Classical.not_not.1 h3
    have hg:rulesK (f+1) r' s'=(none,r',s'):=by
     rw [rulesK,if_neg (fun q=>q.elim (fun q=>h1 (by rw [q];rfl)) (fun q=>q h3))]
    rw [← hT,hg]
    exact ⟨rfl,rfl⟩
  ·(simp only [decide_eq_true_eq,decide_eq_false_iff_not,Bool.not_eq_true',Bool.not_eq_false'] at h1);(simp only [decide_eq_true_eq,decide_eq_false_iff_not,Bool.not_eq_true',Bool.not_eq_false'] at h2)
   have h3:(hd r').1=0:=by
    have:r'=[]:=List.eq_nil_of_length_eq_zero (by omega)
    rw [this,hd_nil]
   have hg:rulesK (f+1) r' s'=(none,r',s'):=by
    rw [rulesK,if_neg (fun q=>q.elim (fun q=>h1 (by rw [q];rfl)) (fun q=>q h3))]
   rw [← hT,hg]
   exact ⟨rfl,rfl⟩
 ·obtain ⟨c,p⟩:=e
  rw [ho] at C
  refine .inl ?_
  ((repeat apply Exists.intro);refine And.intro (Need.mk (C)) ?_)
  refine ⟨fun d0 d1 d2 l' i tk sk lv st rl on tm lm=>d0=c∧d1=p.1∧d2=p.2.1∧l'=l∧i=((l.length-r0.length:Nat):Int)∧tk=s0.tk∧sk=s0.sk∧lv=s0.lv∧st=s0.st∧rl=s0.rl∧on=s0.on∧tm=s0.tm∧lm=s0.lm,fun _ _ _ _ _ _ _ _ _ _ _ _ _=>0,⟨rfl,rfl,rfl,rfl,rfl,rfl,rfl,rfl,rfl,rfl,rfl,rfl,rfl⟩,?_⟩
  intro d0 d1 d2 l' i tk sk lv st rl on tm lm ⟨e1,e2,e3,e4,e5,e6,e7,e8,e9,e10,e11,e12,e13⟩
  subst d0 d1 d2 l' i tk sk lv st rl on tm lm
  exact ⟨rfl,rfl⟩
end
abbrev G0:G:=⟨[],[],[],[],[],false,[],[]⟩
abbrev gr0:Gr:=([],([],([],([],([],())))))
abbrev Dg:=Int×Pos×Unit
abbrev dg0:Dg:=(0,((0,(0,())),()))
def grOf (s:G):Gr:=if s.on=true then s.gr else (s.tk,(s.sk,(s.lv,((s.rl.getD 0 ([],([],([],([],()))))).1,(s.rl,())))))
def marksK (l:List L.Mark):Gr×Dg:=match allK l G0 with
 | (some (c,p),_,_)=>(gr0,(c,(p,())))
 | (none,_,s)=>(grOf s,dg0)
abbrev marksA (o:Gr×Dg):AV:=.tup [.tv [] tGr o.1,.tv [] TDiag o.2]
theorem allK_rl {r r':List L.Mark} {s s':G} (h:allK r s=(none,r',s')):s'.rl≠[]:=by
 unfold allK at h
 split at h
 ·cases h
 ·exact rulesK_rl _ _ _ _ _ (by omega) h
theorem marksR (l:List L.Mark) (hl:l.length≤100000):E 29 [.tv [] (.slice TMark) l] [] (marksA (marksK l)) []:=by
 refine ev_of (vc29 l _ ?_)
 have C:=allR (l:=l) (r:=l) G0 List.suffix_rfl hl
 have e0:((l.length-l.length:Nat):Int)=0:=by rw [Nat.sub_self];rfl
 unfold hR at C
 rw [e0] at C
 rw [marksK]
 rcases ho:allK l G0 with ⟨_ | e,r0,s0⟩
 ·rw [ho] at C
  have hrl:=allK_rl ho
  refine .inr ?_
  ((repeat apply Exists.intro);refine And.intro (Need.mk (C)) ?_)
  have hlen:0<s0.rl.length:=List.length_pos_iff.2 hrl
  refine ⟨fun h1=>⟨⟨by omega⟩,?_⟩,fun h1=>?_⟩
  ·(simp only [decide_eq_true_eq,decide_eq_false_iff_not,Bool.not_eq_true',Bool.not_eq_false'] at h1)
   refine ⟨?_,rfl⟩
   simp only [grOf]
   rw [if_neg (by rw [h1];decide)]
  ·(simp only [decide_eq_true_eq,decide_eq_false_iff_not,Bool.not_eq_true',Bool.not_eq_false'] at h1)
   refine ⟨?_,rfl⟩
   simp only [grOf]
   rw [if_pos h1]
 ·obtain ⟨c,p⟩:=e
  rw [ho] at C
  refine .inl ?_
  ((repeat apply Exists.intro);refine And.intro (Need.mk (C)) ?_)
  exact ⟨rfl,rfl⟩
def lexK (s:List Int):Except (Int×Nat) (List L.Mark):=glue s [] (lexS s.length 0 s)
theorem lexS_len:∀ (f k:Nat) (r:List Int) (l:List Mk),lexS f k r=.ok l→l.length≤f
 | 0,_,_,l,h=>by rw [lexS] at h;cases h;exact Nat.le_refl _
 | f+1,k,[],l,h=>by rw [lexS] at h;cases h;exact Nat.zero_le _
 | f+1,k,c::r,l,h=>by
  rw [lexS_cons] at h
  split at h
  ·cases h
  ·rename_i kd t m ok _
   split at h
   ·cases h
   ·rename_i l' hl'
    have:=lexS_len f _ _ _ hl'
    cases h
    cases ok <;> simp <;> omega
theorem lexK_len {s:List Int} {l:List L.Mark} (h:lexK s=.ok l):l.length≤s.length:=by
 unfold lexK at h
 cases hq:lexS s.length 0 s with
 | error e=>rw [hq] at h;cases h
 | ok q =>
  rw [hq] at h
  have:=lexS_len _ _ _ _ hq
  cases h
  simpa [List.length_map] using this
def readK (s:List Int):Gr×Dg:=match lexK s with
 | .error (e,k)=>if e≠0 then (gr0,(e,(posK (s.take k),()))) else marksK []
 | .ok l=>marksK (l++[(0,([],(posK s,())))])
theorem readR (s:List Int) (hl:s.length≤4000) (hs:∀ c∈s,0≤c∧c<256):E 18 [.tv [] .str s] [] (marksA (readK s)) []:=by
 refine ev_of (vc18 s _ ?_)
 have C:=lex_ev s hl hs
 change E 28 _ _ (lexOut s (lexK s)).1 (lexOut s (lexK s)).2 at C
 rw [readK]
 cases hk:lexK s with
 | error e =>
  obtain ⟨e,k⟩:=e
  rw [hk] at C
  ((repeat apply Exists.intro);refine And.intro (Need.mk (C)) ?_)
  refine ⟨fun h1=>?_,fun h1=>?_⟩
  ·(simp only [decide_eq_true_eq,decide_eq_false_iff_not,Bool.not_eq_true',Bool.not_eq_false'] at h1)
   simp only
   rw [if_pos h1];exact ⟨rfl,by trivial⟩
  ·(simp only [decide_eq_true_eq,decide_eq_false_iff_not,Bool.not_eq_true',Bool.not_eq_false'] at h1)
   simp only
   rw [if_neg h1]
   ((repeat apply Exists.intro);refine And.intro (Need.mk (marksR [] (Nat.zero_le _))) ?_)
   exact ⟨rfl,by trivial⟩
 | ok l =>
  rw [hk] at C
  have:=lexK_len hk
  ((repeat apply Exists.intro);refine And.intro (Need.mk (C)) ?_)
  refine ⟨fun h1=>?_,fun h1=>?_⟩
  ·(simp only [decide_eq_true_eq,decide_eq_false_iff_not,Bool.not_eq_true',Bool.not_eq_false'] at h1);exact (h1 rfl).elim
  ·((repeat apply Exists.intro);refine And.intro (Need.mk (marksR (l++[(0,([],(posK s,())))]) (by simp only [List.length_append,List.length_cons,List.length_nil];omega))) ?_)
   exact ⟨rfl,rfl⟩
end Go.Am.D
