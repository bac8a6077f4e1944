/-
  A part of the proof of a law: see the text that states it.
-/
import Derived.Test.YtggaihkjnomflaaGreatDoorD
import Derived.Test.YtggaihkjnomflaaGreatDoorVc8
set_option linter.all false
namespace Go.Am.N
open Go Go.Am.Pr Go.Am.N.L
set_option maxRecDepth 100000
theorem laZ {r:List L.Mark} (h:(hd r).1≠0):r.tail.length<r.length:=by
 have:=gWZ h;rw [List.length_tail];omega
theorem irZ {r r':List L.Mark} {s s':G} (h:deZ r s=(none,r',s')):r'.length<r.length:=by
 unfold deZ at h
 split at h
 ·rename_i h1
  have h3:=laZ (r:=r) (by rw [h1];decide)
  split at h
  ·have:=(gyZ (r.length+1) (hd r).2.1 r.tail.tail s).length_le
   rw [h] at this
   simp only [List.length_tail] at this h3;omega
  ·cases h
 ·cases h
def ciZ:Nat→List L.Mark→G→Out
 | 0,r,s=>(none,r,s)
 | f+1,r,s=>if s.rl=[]∨(hd r).1≠0 then (match deZ r s with
  | (some e,r',s')=>(some e,r',s')
  | (none,r',s')=>ciZ f r' s') else (none,r,s)
theorem kmZ:∀ (f:Nat) (r r':List L.Mark) (s s':G),r.length<f→ciZ f r s=(none,r',s')→s'.rl≠[]
 | 0,_,_,_,_,h,_=>absurd h (Nat.not_lt_zero _)
 | f+1,r,r',s,s',h,e=>by
  rw [ciZ] at e
  split at e
  ·rcases hr:deZ r s with ⟨_ | c,r2,s2⟩
   ·rw [hr] at e
    have:=irZ hr
    exact kmZ f r2 r' s2 s' (by omega) e
   ·rw [hr] at e;cases e
  ·rename_i hc
   cases e
   exact fun q=>hc (.inl q)
def nwZ (r:List L.Mark) (s:G):Out:=match bDZ (r.length+1) r s with
 | (some e,r',s')=>(some e,r',s')
 | (none,r',s')=>ciZ (r'.length+1) r' s'
section
variable {l r:List L.Mark} (s:G) (h:r <:+ l) (hl:l.length≤100000)
include h hl
theorem uPZ:E 57 [.op (0,0) []] (hR l r s) (erA (nwZ r s).1) (erH l (nwZ r s)):=by
 refine arZ (vAZ l _ s.tk s.sk s.lv s.st s.rl s.on s.tm s.lm _ ?_)
 have C:=tHZ s h hl
 have hx:=hLZ (r.length+1) r s
 rw [nwZ]
 rcases ho:bDZ (r.length+1) r s with ⟨_ | e,r0,s0⟩
 ·rw [ho] at C hx
  simp only at hx ⊢
  have h0:=hx.trans h
  refine .inr ?_
  ((repeat apply Exists.intro);refine And.intro (Need.mk (C)) ?_)
  refine ⟨fun l' i tk sk lv st rl on tm lm=>∃ f r' s',l'=l∧i=((l.length-r'.length:Nat):Int)∧tk=G.tk s'∧sk=s'.sk∧lv=s'.lv∧st=s'.st∧rl=s'.rl∧on=s'.on∧tm=s'.tm∧lm=s'.lm∧r' <:+ l∧r'.length<f∧ciZ f r' s'=ciZ (r0.length+1) r0 s0,
   fun _ i _ _ _ _ _ _ _ _=>l.length-i.toNat,⟨r0.length+1,r0,s0,rfl,rfl,rfl,rfl,rfl,rfl,rfl,rfl,rfl,rfl,h0,by omega,rfl⟩,?_⟩
  intro l' i tk sk lv st rl on tm lm ⟨f,r',s',e1,e2,e3,e4,e5,e6,e7,e8,e9,e10,hs,hf,hT⟩
  subst l' i tk sk lv st rl on tm lm
  obtain ⟨f,rfl⟩:∃ k,f=k+1:=⟨f-1,by omega⟩
  have hle:=hs.length_le
  have CR:=umZ s' hs hl
  have hxr:=oTZ r' s'
  have go:∀ (hc:s'.rl=[]∨(hd r').1≠0),ciZ (f+1) r' s'=match deZ r' s' with
   | (some e,r',s')=>(some e,r',s')
   | (none,r',s')=>ciZ f r' s':=fun hc=>by rw [ciZ,if_pos hc]
  refine ⟨fun h1=>?_,fun h1=>⟨fun h2=>?_,fun h2=>?_⟩⟩
  ·(simp only [dq1,dq2,dq3,dq4] at h1)
   have hg:=go (.inl (List.eq_nil_of_length_eq_zero (by omega)))
   rcases hr:deZ r' s' with ⟨_ | e,r2,s2⟩
   ·have hlt:=irZ hr
    rw [hr] at CR hxr hg
    simp only at hxr hg
    refine .inr ?_
    ((repeat apply Exists.intro);refine And.intro (Need.mk (CR)) ?_)
    refine ⟨⟨f,r2,s2,rfl,rfl,rfl,rfl,rfl,rfl,rfl,rfl,rfl,rfl,hxr.trans hs,by omega,by rw [← hT,hg]⟩,⟨?_⟩⟩
    simp only [Int.toNat_natCast];omega
   ·obtain ⟨c,p⟩:=e
    rw [hr] at CR hg
    refine .inl ?_
    ((repeat apply Exists.intro);refine And.intro (Need.mk (CR)) ?_)
    rw [← hT,hg]
    exact ⟨rfl,rfl⟩
  ·(simp only [dq1,dq2,dq3,dq4] at h1);(simp only [dq1,dq2,dq3,dq4] at h2)
   ((repeat apply Exists.intro);refine And.intro (Need.mk (p6Z s' hs)) ?_)
   refine ⟨fun h3=>?_,fun h3=>?_⟩
   ·(simp only [dq1,dq2,dq3,dq4] at h3)
    have hg:=go (.inr h3)
    rcases hr:deZ r' s' with ⟨_ | e,r2,s2⟩
    ·have hlt:=irZ hr
     rw [hr] at CR hxr hg
     simp only at hxr hg
     refine .inr ?_
     ((repeat apply Exists.intro);refine And.intro (Need.mk (CR)) ?_)
     refine ⟨⟨f,r2,s2,rfl,rfl,rfl,rfl,rfl,rfl,rfl,rfl,rfl,rfl,hxr.trans hs,by omega,by rw [← hT,hg]⟩,⟨?_⟩⟩
     simp only [Int.toNat_natCast];omega
    ·obtain ⟨c,p⟩:=e
     rw [hr] at CR hg
     refine .inl ?_
     ((repeat apply Exists.intro);refine And.intro (Need.mk (CR)) ?_)
     rw [← hT,hg]
     exact ⟨rfl,rfl⟩
   ·(simp only [dq1,dq2,dq3,dq4] at h3)
    have h3:(hd r').1=0:=Classical.not_not.1 h3
    have hg:ciZ (f+1) r' s'=(none,r',s'):=by
     rw [ciZ,if_neg (fun q=>q.elim (fun q=>h1 (by rw [q];rfl)) (fun q=>q h3))]
    rw [← hT,hg]
    exact ⟨rfl,rfl⟩
  ·(simp only [dq1,dq2,dq3,dq4] at h1);(simp only [dq1,dq2,dq3,dq4] at h2)
   have h3:(hd r').1=0:=by
    have:r'=[]:=List.eq_nil_of_length_eq_zero (by omega)
    rw [this,fuZ]
   have hg:ciZ (f+1) r' s'=(none,r',s'):=by
    rw [ciZ,if_neg (fun q=>q.elim (fun q=>h1 (by rw [q];rfl)) (fun q=>q h3))]
   rw [← hT,hg]
   exact ⟨rfl,rfl⟩
 ·obtain ⟨c,p⟩:=e
  rw [ho] at C
  refine .inl ?_
  ((repeat apply Exists.intro);refine And.intro (Need.mk (C)) ?_)
  refine ⟨fun d0 d1 d2 l' i tk sk lv st rl on tm lm=>d0=c∧d1=p.1∧d2=p.2.1∧l'=l∧i=((l.length-r0.length:Nat):Int)∧tk=s0.tk∧sk=s0.sk∧lv=s0.lv∧st=s0.st∧rl=s0.rl∧on=s0.on∧tm=s0.tm∧lm=s0.lm,fun _ _ _ _ _ _ _ _ _ _ _ _ _=>0,⟨rfl,rfl,rfl,rfl,rfl,rfl,rfl,rfl,rfl,rfl,rfl,rfl,rfl⟩,?_⟩
  intro d0 d1 d2 l' i tk sk lv st rl on tm lm ⟨e1,e2,e3,e4,e5,e6,e7,e8,e9,e10,e11,e12,e13⟩
  subst d0 d1 d2 l' i tk sk lv st rl on tm lm
  exact ⟨rfl,rfl⟩
end
abbrev G0:G:=⟨[],[],[],[],[],false,[],[]⟩
abbrev gr0:Gr:=([],([],([],([],([],())))))
abbrev Dg:=Int×Pos×Unit
abbrev dg0:Dg:=(0,((0,(0,())),()))
def myZ (s:G):Gr:=if s.on=true then s.gr else (s.tk,(s.sk,(s.lv,((s.rl.getD 0 ([],([],([],([],()))))).1,(s.rl,())))))
def kkZ (l:List L.Mark):Gr×Dg:=match nwZ l G0 with
 | (some (c,p),_,_)=>(gr0,(c,(p,())))
 | (none,_,s)=>(myZ s,dg0)
abbrev f6Z (o:Gr×Dg):AV:=.tup [.tv [] tGr o.1,.tv [] qiZ o.2]
theorem oMZ {r r':List L.Mark} {s s':G} (h:nwZ r s=(none,r',s')):s'.rl≠[]:=by
 unfold nwZ at h
 split at h
 ·cases h
 ·exact kmZ _ _ _ _ _ (by omega) h
theorem q7Z (l:List L.Mark) (hl:l.length≤100000):E 35 [.tv [] (.slice d5Z) l] [] (f6Z (kkZ l)) []:=by
 refine arZ (vTZ l _ ?_)
 have C:=uPZ (l:=l) (r:=l) G0 List.suffix_rfl hl
 have e0:((l.length-l.length:Nat):Int)=0:=by rw [Nat.sub_self];rfl
 unfold hR at C
 rw [e0] at C
 rw [kkZ]
 rcases ho:nwZ l G0 with ⟨_ | e,r0,s0⟩
 ·rw [ho] at C
  have hrl:=oMZ ho
  refine .inr ?_
  ((repeat apply Exists.intro);refine And.intro (Need.mk (C)) ?_)
  have hlen:0<s0.rl.length:=List.length_pos_iff.2 hrl
  refine ⟨fun h1=>⟨⟨by omega⟩,?_⟩,fun h1=>?_⟩
  ·(simp only [dq1,dq2,dq3,dq4] at h1)
   refine ⟨?_,rfl⟩
   simp only [myZ]
   rw [if_neg (by rw [h1];decide)]
  ·(simp only [dq1,dq2,dq3,dq4] at h1)
   refine ⟨?_,rfl⟩
   simp only [myZ]
   rw [if_pos h1]
 ·obtain ⟨c,p⟩:=e
  rw [ho] at C
  refine .inl ?_
  ((repeat apply Exists.intro);refine And.intro (Need.mk (C)) ?_)
  exact ⟨rfl,rfl⟩
def oOZ (s:List Int):Except (Int×Nat) (List L.Mark):=qXZ s [] (lexS s.length 0 s)
theorem mBZ:∀ (f k:Nat) (r:List Int) (l:List Mk),lexS f k r=.ok l→l.length≤f
 | 0,_,_,l,h=>by rw [lexS] at h;cases h;exact Nat.le_refl _
 | f+1,k,[],l,h=>by rw [lexS] at h;cases h;exact Nat.zero_le _
 | f+1,k,c::r,l,h=>by
  rw [cMZ] at h
  split at h
  ·cases h
  ·rename_i kd t m ok _
   split at h
   ·cases h
   ·rename_i l' hl'
    have:=mBZ f _ _ _ hl'
    cases h
    cases ok <;> simp <;> omega
theorem ioZ {s:List Int} {l:List L.Mark} (h:oOZ s=.ok l):l.length≤s.length:=by
 unfold oOZ at h
 cases hq:lexS s.length 0 s with
 | error e=>rw [hq] at h;cases h
 | ok q =>
  rw [hq] at h
  have:=mBZ _ _ _ _ hq
  cases h
  simpa [List.length_map] using this
def mDZ (s:List Int):Gr×Dg:=match oOZ s with
 | .error (e,k)=>if e≠0 then (gr0,(e,(jBZ (s.take k),()))) else kkZ []
 | .ok l=>kkZ (l++[(0,([],(jBZ s,())))])
theorem tlZ (s:List Int) (hl:s.length≤4000) (hs:∀ c∈s,0≤c∧c<256):E 12 [.tv [] .str s] [] (f6Z (mDZ s)) []:=by
 refine arZ (v5Z s _ ?_)
 have C:=rmZ s hl hs
 change E 34 _ _ (mAZ s (oOZ s)).1 (mAZ s (oOZ s)).2 at C
 rw [mDZ]
 cases hk:oOZ s with
 | error e =>
  obtain ⟨e,k⟩:=e
  rw [hk] at C
  ((repeat apply Exists.intro);refine And.intro (Need.mk (C)) ?_)
  refine ⟨fun h1=>?_,fun h1=>?_⟩
  ·(simp only [dq1,dq2,dq3,dq4] at h1)
   simp only
   rw [if_pos h1];exact ⟨rfl,by trivial⟩
  ·(simp only [dq1,dq2,dq3,dq4] at h1)
   simp only
   rw [if_neg h1]
   ((repeat apply Exists.intro);refine And.intro (Need.mk (q7Z [] (Nat.zero_le _))) ?_)
   exact ⟨rfl,by trivial⟩
 | ok l =>
  rw [hk] at C
  have:=ioZ hk
  ((repeat apply Exists.intro);refine And.intro (Need.mk (C)) ?_)
  refine ⟨fun h1=>?_,fun h1=>?_⟩
  ·(simp only [dq1,dq2,dq3,dq4] at h1);exact (h1 rfl).elim
  ·((repeat apply Exists.intro);refine And.intro (Need.mk (q7Z (l++[(0,([],(jBZ s,())))]) (by simp only [List.length_append,List.length_cons,List.length_nil];omega))) ?_)
   exact ⟨rfl,rfl⟩
end Go.Am.N
