/-
  A part of the proof of a law: see the text that states it.
-/
import Derived.Test.YtggaihkjnomflaaGreatDoorG
set_option linter.all false
namespace Go.Am.N
open Go Go.Am.Pr Go.Am.N.L
set_option maxRecDepth 100000
theorem gKZ {α β:Type} [DecidableEq α] (d v:β) (k j:α):∀ l:List (α×β),Pr.mget (Pr.mset l k v) j d=if j=k then v else Pr.mget l j d
 | []=>by simp only [Pr.mset,Pr.mget]
 | (a,b)::l=>by
  have ih:=gKZ d v k j l
  simp only [Pr.mset]
  by_cases h:k=a
  ·rw [if_pos h]
   simp only [Pr.mget]
   subst h
   split <;> rfl
  ·rw [if_neg h]
   simp only [Pr.mget,ih]
   by_cases h2:j=a
   ·rw [if_pos h2,if_neg (fun e=>h (e.symm.trans h2)),if_pos h2]
   ·rw [if_neg h2,if_neg h2]
structure J (s:G):Prop where
  tkN:s.tk.length≤20
  tkD:(s.tk.map (·.1)).Nodup
  tkM:∀ n∈s.tk.map (·.1),Pr.mget s.tm n false=true
  skN:s.sk.length≤4
  lvN:s.lv.length≤10
  lvA:∀ x∈s.lv,x.2.1≠[]∧1≤x.1∧x.1≤3
  lvD:(s.lv.flatMap (·.2.1)).Nodup
  lvM:∀ n∈s.lv.flatMap (·.2.1),Pr.mget s.lm n false=true
  rlN:s.rl.length≤40
  rlL:∀ x∈s.rl,x.1≠[]
  st:s.on=true→s.st≠[]
  lvS:∀ x∈s.lv,x.2.1.length≤5000
structure Mk0 (P:Pos→Prop) (l:List L.Mark):Prop where
 at_:∀ m∈l,P m.2.2.1
 nm:∀ m∈l,m.1=1→m.2.1≠[]
 en:∃ l0 e,l=l0++[e]∧e.1=0
 len:l.length≤5000
def Good (l r:List L.Mark):Prop:=r <:+ l∧r≠[]
def Ok (P:Pos→Prop) (l:List L.Mark):Out→Prop
 | (some (c,p),_,_)=>P p∧c≠0
 | (none,r,s)=>Good l r∧J s
section
variable {P:Pos→Prop} {l r:List L.Mark} {s:G} (H:Mk0 P l)
include H
theorem Good.mem (h:Good l r):hd r∈l:=by
 obtain ⟨h1,h2⟩:=h
 cases r with
 | nil=>exact absurd rfl h2
 | cons m r=>rw [bWZ];exact h1.subset List.mem_cons_self
theorem Good.tail (h:Good l r) (h0:(hd r).1≠0):Good l r.tail:=by
 obtain ⟨h1,h2⟩:=h
 refine ⟨drZ h1,fun e=>?_⟩
 cases r with
 | nil=>exact absurd rfl h2
 | cons m r =>
  simp only [List.tail_cons] at e
  subst e
  obtain ⟨l0,e,rfl,he⟩:=H.en
  obtain ⟨t,ht⟩:=h1
  have:=(List.append_inj' ht rfl).2
  rw [bWZ] at h0
  cases this
  exact h0 he
theorem Good.tail' (h:Good l r) {k:Int} (h0:(hd r).1=k) (hk:k≠0):Good l r.tail:=h.tail H (by rw [h0];exact hk)
theorem j3Z (h:Good l r):match hjZ r with
  | .error p=>P p
  | .ok (_,r')=>Good l r':=by
 unfold hjZ
 by_cases h3:(hd r).1=3
 ·rw [if_pos h3];exact h.tail' H h3 (by decide)
 ·rw [if_neg h3]
  by_cases h4:(hd r).1=4
  ·rw [if_pos h4]
   have ht:=h.tail' H h4 (by decide)
   by_cases h5:(hd r.tail).1=5
   ·rw [if_pos h5];exact ht.tail' H h5 (by decide)
   ·rw [if_neg h5];exact ht
  ·rw [if_neg h4];exact H.at_ _ (h.mem H)
theorem nTZ (h:Good l r) (j:J s):Ok P l (cdZ r s):=by
  unfold cdZ
  by_cases h1:(hd r).1=1
  · rw [if_neg (not_not_intro h1)]
    have ht:=h.tail' H h1 (by decide)
    have hp:=H.at_ _ (h.mem H)
    by_cases h2:Pr.mget s.tm (hd r).2.1 false=true
    · rw [if_pos h2];exact ⟨hp,by decide⟩
    · rw [if_neg h2]
      by_cases h3:20≤s.tk.length
      · rw [if_pos h3];exact ⟨hp,by decide⟩
      · rw [if_neg h3]
        have hk:=j3Z H ht
        cases hq:hjZ r.tail with
        | error p=>rw [hq] at hk;exact ⟨hk,by decide⟩
        | ok q =>
          obtain ⟨p,r'⟩:=q
          rw [hq] at hk
          have hnew:(hd r).2.1 ∉ s.tk.map (·.1):=fun q=>h2 (j.tkM _ q)
          refine ⟨hk,?_,?_,?_,j.skN,j.lvN,j.lvA,j.lvD,j.lvM,j.rlN,j.rlL,j.st,j.lvS⟩
          · simp only [List.length_append,List.length_cons,List.length_nil];omega
          · simp only [List.map_append,List.map_cons,List.map_nil]
            refine List.nodup_append.2 ⟨j.tkD,by simp,fun a ha b hb=>?_⟩
            simp only [List.mem_singleton] at hb
            subst hb
            exact fun e=>hnew (e ▸ ha)
          · intro n hn
            simp only [List.map_append,List.map_cons,List.map_nil,List.mem_append,List.mem_singleton] at hn
            rw [gKZ]
            by_cases e:n=(hd r).2.1
            · rw [if_pos e]
            · rw [if_neg e];exact j.tkM n (hn.resolve_right e)
  · rw [if_pos h1];exact ⟨H.at_ _ (h.mem H),by decide⟩
theorem p1Z {w:L.Mark} (hw:P w.2.2.1) (h:Good l r) (j:J s):Ok P l (elZ w r s):=by
 unfold elZ
 by_cases h3:4≤s.sk.length
 ·rw [if_pos h3];exact ⟨hw,by decide⟩
 ·rw [if_neg h3]
  have hk:=j3Z H h
  cases hq:hjZ r with
  | error p=>rw [hq] at hk;exact ⟨hk,by decide⟩
  | ok q =>
   obtain ⟨p,r'⟩:=q
   rw [hq] at hk
   refine ⟨hk,j.tkN,j.tkD,j.tkM,?_,j.lvN,j.lvA,j.lvD,j.lvM,j.rlN,j.rlL,j.st,j.lvS⟩
   simp only [List.length_append,List.length_cons,List.length_nil];omega
theorem oLZ {w:L.Mark} (hw:P w.2.2.1) (h:Good l r) (j:J s):Ok P l (cNZ w r s):=by
 unfold cNZ
 by_cases h3:s.on=true
 ·rw [if_pos h3];exact ⟨hw,by decide⟩
 ·rw [if_neg h3]
  by_cases h1:(hd r).1=1
  ·rw [if_pos h1]
   exact ⟨h.tail' H h1 (by decide),j.tkN,j.tkD,j.tkM,j.skN,j.lvN,j.lvA,j.lvD,j.lvM,j.rlN,j.rlL,fun _=>H.nm _ (h.mem H) h1,j.lvS⟩
  ·rw [if_neg h1];exact ⟨H.at_ _ (h.mem H),by decide⟩
theorem jLZ (old:Ns):∀ (f:Nat) (r:List L.Mark) (ns:Ns) (lm:Mp),r.length≤f→Good l r→(old++ns).Nodup→(∀ n∈old++ns,Pr.mget lm n false=true) →
  match boZ r ns lm with
  | (some (c,p),_,_,_)=>P p∧c≠0
  | (none,r',lm',ns')=>Good l r'∧ns'≠[]∧((old++ns').Nodup∧∀ n∈old++ns',Pr.mget lm' n false=true)∧ns'.length≤ns.length+r.length
 | 0,r,ns,lm,hf,h,_,_=>absurd (List.eq_nil_of_length_eq_zero (Nat.le_zero.1 hf)) h.2
 | f+1,r,ns,lm,hf,h,hn,hm=>by
  by_cases h1:(hd r).1=1
  ·by_cases h2:Pr.mget lm (hd r).2.1 false=true
   ·rw [dyZ h1 h2];exact ⟨H.at_ _ (h.mem H),by decide⟩
   ·have h2':Pr.mget lm (hd r).2.1 false=false:=by simpa using h2
    rw [fPZ h1 h2']
    have hlt:=laZ (r:=r) (by rw [h1];decide)
    have hnew:(hd r).2.1 ∉ old++ns:=fun q=>h2 (hm _ q)
    have ih:=jLZ old f r.tail (ns++[(hd r).2.1]) (Pr.mset lm (hd r).2.1 true) (by omega) (h.tail' H h1 (by decide)) ?_ ?_
    ·rcases hq:boZ r.tail (ns++[(hd r).2.1]) (Pr.mset lm (hd r).2.1 true) with ⟨_ | e,r',lm',ns'⟩
     ·rw [hq] at ih
      obtain ⟨k1,k2,k3,k4⟩:=ih
      refine ⟨k1,k2,k3,?_⟩
      simp only [List.length_append,List.length_cons,List.length_nil] at k4;omega
     ·rw [hq] at ih;exact ih
    ·rw [← List.append_assoc]
     refine List.nodup_append.2 ⟨hn,by simp,fun a ha b hb=>?_⟩
     simp only [List.mem_singleton] at hb
     subst hb
     exact fun e=>hnew (e ▸ ha)
    ·intro n hn
     rw [← List.append_assoc,List.mem_append,List.mem_singleton] at hn
     rw [gKZ]
     by_cases e:n=(hd r).2.1
     ·rw [if_pos e]
     ·rw [if_neg e];exact hm n (hn.resolve_right e)
  ·rw [eoZ h1]
   by_cases h2:ns=[]
   ·rw [if_pos h2];exact ⟨H.at_ _ (h.mem H),by decide⟩
   ·rw [if_neg h2];exact ⟨h,h2,⟨hn,hm⟩,by omega⟩
theorem o6Z (t:List Int):1≤hbZ t∧hbZ t≤3:=by
 unfold hbZ
 split
 ·decide
 ·split <;> decide
theorem gHZ {w:L.Mark} (hw:P w.2.2.1) (h:Good l r) (j:J s):Ok P l (bbZ w r s):=by
  unfold bbZ
  by_cases h3:10≤s.lv.length
  · rw [if_pos h3];exact ⟨hw,by decide⟩
  · rw [if_neg h3]
    have hk:=jLZ H (s.lv.flatMap (·.2.1)) r.length r [] s.lm (Nat.le_refl _) h (by rw [List.append_nil];exact j.lvD) (by rw [List.append_nil];exact j.lvM)
    rcases hq:boZ r [] s.lm with ⟨_ | e,r',lm',ns'⟩
    · rw [hq] at hk
      obtain ⟨k1,k2,⟨k3,k4⟩,k5⟩:=hk
      refine ⟨k1,j.tkN,j.tkD,j.tkM,j.skN,?_,?_,?_,?_,j.rlN,j.rlL,j.st,?_⟩
      · simp only [List.length_append,List.length_cons,List.length_nil];omega
      · intro x hx
        simp only [List.mem_append,List.mem_singleton] at hx
        rcases hx with hx | rfl
        · exact j.lvA x hx
        · exact ⟨k2,o6Z H _⟩
      · simpa [List.flatMap_append] using k3
      · simpa [List.flatMap_append] using k4
      · intro x hx
        simp only [List.mem_append,List.mem_singleton] at hx
        rcases hx with hx | rfl
        · exact j.lvS x hx
        · have:=h.1.length_le
          have:=H.len
          simp only [List.length_nil] at k5 ⊢;omega
    · obtain ⟨c,p⟩:=e
      rw [hq] at hk
      exact hk
theorem qvZ {w:L.Mark} (hw:P w.2.2.1) (h:Good l r) (j:J s) {o:Out} (ho:cIZ w r s=some o):Ok P l o:=by
 unfold cIZ at ho
 split at ho;· cases ho;exact nTZ H h j
 split at ho;· cases ho;exact p1Z H hw h j
 split at ho;· cases ho;exact gHZ H hw h j
 split at ho;· cases ho;exact gHZ H hw h j
 split at ho;· cases ho;exact gHZ H hw h j
 split at ho;· cases ho;exact oLZ H hw h j
 cases ho
theorem i3Z:∀ (f:Nat) (r:List L.Mark) (s:G),Good l r→J s→Ok P l (bDZ f r s)
 | 0,r,s,h,j=>⟨h,j⟩
 | f+1,r,s,h,j=>by
  rw [bDZ]
  have hp:=H.at_ _ (h.mem H)
  by_cases h2:(hd r).1=2
  ·rw [if_neg (not_not_intro h2)]
   have ht:=h.tail' H h2 (by decide)
   by_cases h3:(hd r).2.1=[37]
   ·rw [if_pos h3];exact ⟨ht,j⟩
   ·rw [if_neg h3]
    cases hq:cIZ (hd r) r.tail s with
    | none=>exact ⟨hp,by decide⟩
    | some o =>
     have hk:=qvZ H hp ht j hq
     obtain ⟨_ | e,r',s'⟩:=o
     ·exact i3Z f r' s' hk.1 hk.2
     ·exact hk
  ·rw [if_pos h2];exact ⟨hp,by decide⟩
theorem jVZ:∀ (f:Nat) (r:List L.Mark) (ns:Ns),r.length≤f→Good l r →
  match bwZ r ns with
  | (some (c,p),_,_)=>P p∧c≠0
  | (none,r',_)=>Good l r'
 | 0,r,ns,hf,h=>absurd (List.eq_nil_of_length_eq_zero (Nat.le_zero.1 hf)) h.2
 | f+1,r,ns,hf,h=>by
  by_cases h1:(hd r).1=1
  ·by_cases h2:8≤ns.length
   ·rw [fQZ h1 h2];exact ⟨H.at_ _ (h.mem H),by decide⟩
   ·rw [jhZ h1 h2]
    have hlt:=laZ (r:=r) (by rw [h1];decide)
    exact jVZ f r.tail _ (by omega) (h.tail' H h1 (by decide))
  ·rw [gJZ h1];exact h
theorem pzZ {left:List Int} (hl:left≠[]) (ns:Ns) (pc:List Int) (h:Good l r) (j:J s) (hn:¬ 40≤s.rl.length):Ok P l (ouZ left ns pc r s):=by
 unfold ouZ
 have hg:Good l (actK r).2:=by
  by_cases h9:(hd r).1=9
  ·rw [moZ h9];exact h.tail' H h9 (by decide)
  ·rw [jOZ h9];exact h
 refine ⟨hg,j.tkN,j.tkD,j.tkM,j.skN,j.lvN,j.lvA,j.lvD,j.lvM,?_,?_,j.st,j.lvS⟩
 ·simp only [List.length_append,List.length_cons,List.length_nil];omega
 ·intro x hx
  simp only [List.mem_append,List.mem_singleton] at hx
  rcases hx with hx | rfl
  ·exact j.rlL x hx
  ·exact hl
theorem sBZ {left:List Int} (hl:left≠[]) (h:Good l r) (j:J s):Ok P l (lHZ left r s):=by
 unfold lHZ
 by_cases h4:40≤s.rl.length
 ·rw [if_pos h4];exact ⟨H.at_ _ (h.mem H),by decide⟩
 ·rw [if_neg h4]
  have hk:=jVZ H r.length r [] (Nat.le_refl _) h
  rcases hq:bwZ r [] with ⟨_ | e,r',ns'⟩
  ·rw [hq] at hk
   simp only at hk ⊢
   unfold pFZ
   by_cases h2:(hd r').1=2∧(hd r').2.1=swZ
   ·rw [if_pos h2]
    have ht:=hk.tail' H h2.1 (by decide)
    by_cases h5:(hd r'.tail).1=1
    ·rw [if_pos h5];exact pzZ H hl _ _ (ht.tail' H h5 (by decide)) j h4
    ·rw [if_neg h5];exact ⟨H.at_ _ (ht.mem H),by decide⟩
   ·rw [if_neg h2];exact pzZ H hl _ _ hk j h4
  ·obtain ⟨c,p⟩:=e
   rw [hq] at hk
   exact hk
theorem l2Z {left:List Int} (hl:left≠[]):∀ (f:Nat) (r:List L.Mark) (s:G),Good l r→J s→Ok P l (guZ f left r s)
 | 0,r,s,h,j=>⟨h,j⟩
 | f+1,r,s,h,j=>by
  rw [guZ]
  have hk:=sBZ H hl h j
  rcases hq:lHZ left r s with ⟨_ | e,r',s'⟩
  ·rw [hq] at hk
   obtain ⟨k1,k2⟩:=hk
   simp only
   by_cases h7:(hd r').1=7
   ·rw [if_pos h7];exact l2Z hl f _ _ (k1.tail' H h7 (by decide)) k2
   ·rw [if_neg h7]
    by_cases h8:(hd r').1=8
    ·rw [if_pos h8];exact ⟨k1.tail' H h8 (by decide),k2⟩
    ·rw [if_neg h8];exact ⟨H.at_ _ (k1.mem H),by decide⟩
  ·rw [hq] at hk;exact hk
theorem pEZ (h:Good l r) (j:J s):Ok P l (deZ r s):=by
 unfold deZ
 by_cases h1:(hd r).1=1
 ·rw [if_pos h1]
  have ht:=h.tail' H h1 (by decide)
  by_cases h6:(hd r.tail).1=6
  ·rw [if_pos h6];exact l2Z H (H.nm _ (h.mem H) h1) _ _ _ (ht.tail' H h6 (by decide)) j
  ·rw [if_neg h6];exact ⟨H.at_ _ (ht.mem H),by decide⟩
 ·rw [if_neg h1];exact ⟨H.at_ _ (h.mem H),by decide⟩
theorem jgZ:∀ (f:Nat) (r:List L.Mark) (s:G),Good l r→J s→Ok P l (ciZ f r s)
 | 0,r,s,h,j=>⟨h,j⟩
 | f+1,r,s,h,j=>by
  rw [ciZ]
  by_cases hc:s.rl=[]∨(hd r).1≠0
  ·rw [if_pos hc]
   have hk:=pEZ H h j
   rcases hq:deZ r s with ⟨_ | e,r',s'⟩
   ·rw [hq] at hk;exact jgZ f r' s' hk.1 hk.2
   ·rw [hq] at hk;exact hk
  ·rw [if_neg hc];exact ⟨h,j⟩
theorem sJZ (h:Good l r) (j:J s):Ok P l (nwZ r s):=by
 unfold nwZ
 have hk:=i3Z H (r.length+1) r s h j
 rcases hq:bDZ (r.length+1) r s with ⟨_ | e,r',s'⟩
 ·rw [hq] at hk;exact jgZ H _ r' s' hk.1 hk.2
 ·rw [hq] at hk;exact hk
end
theorem J0:J G0:=⟨by decide,by simp,nofun,by decide,by decide,nofun,by simp,nofun,by decide,nofun,nofun,nofun⟩
end Go.Am.N
