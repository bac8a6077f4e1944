/-
  A part of the proof of a law: see the text that states it.
-/
import Derived.Test.YtggaihkjnomflaaGreatDoorPG
import Derived.Test.YtggaihkjnomflaaGreatDoorZI
set_option linter.all false
namespace Go.Am.N
open Go Go.Am.Pr Go.Am.N.L
set_option maxRecDepth 100000
abbrev By (s:List Int):Prop:=∀ c∈s,0≤c∧c<256
structure ByP (g:Gr):Prop where
 tk:∀ t∈g.1,By t.2.1.1∧By t.2.1.2.1
 sk:∀ p∈g.2.1,By p.1∧By p.2.1
theorem kNZ:∀ (l:List Bool) (i:Nat),∀ c∈jZZ i l,(i:Int)≤c∧c<i+l.length
 | [],i,c,h=>by cases h
 | b::l,i,c,h=>by
  have ih:=kNZ l (i+1)
  rw [jZZ] at h
  simp only [List.length_cons]
  split at h
  ·rcases List.mem_cons.1 h with rfl | h
   ·omega
   ·have:=ih c h;omega
  ·have:=ih c h;omega
theorem mHZ {a:Int} {s:List Int} (h:iZZ s=true) (hs:∀ c∈s,a<c):iZZ (a::s)=true:=by
 cases s with
 | nil=>rfl
 | cons b r =>
  have:=hs b (List.mem_cons_self ..)
  rw [iZZ,if_neg (by omega)];exact h
theorem hOZ:∀ (l:List Bool) (i:Nat),iZZ (jZZ i l)=true
 | [],_=>rfl
 | b::l,i=>by
  have ih:=hOZ l (i+1)
  rw [jZZ]
  split
  ·exact mHZ ih fun c hc=>by have:=kNZ l (i+1) c hc;omega
  ·exact ih
theorem fLZ:∀ (f:Nat) (r out:List Int) (k:Nat) {t:List Int} {m:Nat},r.length≤f→(∀ c∈r,0≤c∧c<256)→(∀ c∈out,0≤c∧c<256)→textL out k r=.ok (t,m)→t≠[]∧t.length≤32∧∀ c∈t,0≤c∧c<256
 | f,[],out,k,t,m,_,_,_,h=>by rw [textL] at h;cases h
 | 0,c::r,_,_,_,_,hf,_,_,_=>by simp at hf
 | f+1,c::r,out,k,t,m,hf,hr,ho,h=>by
  simp only [List.length_cons] at hf
  have hr':∀ b∈r,0≤b∧b<256:=fun b hb=>hr b (List.mem_cons_of_mem _ hb)
  rw [b3Z] at h
  split at h
  ·cases h
  ·split at h
   ·split at h
    ·cases h
    ·split at h
     ·cases h
     ·rename_i h1 h2
      cases h
      exact ⟨fun q=>h1 (by rw [q];rfl),by omega,ho⟩
   ·split at h
    ·cases r with
     | nil=>cases h
     | cons d r' =>
      dsimp only at h
      split at h
      ·cases h
      ·rename_i e he
       simp only [List.length_cons] at hf
       have hb:=(jNZ (may:=s2Z) (r:=d::r') (y:=e) he).1
       exact fLZ f r' _ _ (by omega) (fun b hb=>hr' b (List.mem_cons_of_mem _ hb)) (fun b hb2=>by
        rcases List.mem_append.1 hb2 with q | q
        ·exact ho b q
        ·rw [List.mem_singleton] at q;subst q;exact hb) h
    ·exact fLZ f r _ _ (by omega) hr' (fun b hb2=>by
      rcases List.mem_append.1 hb2 with q | q
      ·exact ho b q
      ·rw [List.mem_singleton] at q;subst q;exact hr _ (List.mem_cons_self ..)) h
theorem ilZ (s:List Int) (w:List Int):∀ (r:List Int) (d:Int) (k:Nat) {t:List Int} {m:Nat},1≤d→d≤4→1≤k→w.drop k=r→d1Z w d k r=.ok (t,m)→t.length≤200∧∃ u,(w.drop 1).take (k-1)++u=t∧c9Z d u=true
 | [],d,k,t,m,_,_,_,_,h=>by rw [d1Z] at h;cases h
 | c::r,d,k,t,m,h1,h4,hk,hw,h=>by
  have hkl:k<w.length:=by
   have:=congrArg List.length hw
   rw [List.length_drop,List.length_cons] at this;omega
  have hc:w.getD k 0=c:=by
   have:=aHZ (0:Int) hkl
   rw [hw] at this
   exact (List.cons.inj this).1.symm
  have hw':w.drop (k+1)=r:=by
   have:=aHZ (0:Int) hkl
   rw [hw] at this
   exact (List.cons.inj this).2.symm
  have st:(w.drop 1).take (k+1-1)=(w.drop 1).take (k-1)++[c]:=by
   have hl:k-1<(w.drop 1).length:=by rw [List.length_drop];omega
   have:=aaZ (0:Int) hl
   rw [show k-1+1=k by omega] at this
   rw [show k+1-1=k by omega,this]
   congr 2
   rw [← hc,List.getD_eq_getElem?_getD,List.getD_eq_getElem?_getD,List.getElem?_drop,show 1+(k-1)=k by omega]
  rw [d1Z] at h
  split at h
  ·rename_i hc2
   split at h
   ·cases h
   ·rename_i h5
    obtain ⟨g1,u,g2,g3⟩:=ilZ s w r (d+1) (k+1) (by omega) (by omega) (by omega) hw' h
    refine ⟨g1,c::u,by rw [← g2,st];simp,?_⟩
    rw [c9Z,if_pos hc2,if_neg (by omega)];exact g3
  ·rename_i hc2
   split at h
   ·rename_i hc3
    split at h
    ·obtain ⟨g1,u,g2,g3⟩:=ilZ s w r (d-1) (k+1) (by omega) (by omega) (by omega) hw' h
     refine ⟨g1,c::u,by rw [← g2,st];simp,?_⟩
     rw [c9Z,if_neg hc2,if_pos hc3,if_neg (by omega)];exact g3
    ·split at h
     ·cases h
     ·rename_i h5 h6
      cases h
      have e:(w.take k).drop 1=(w.drop 1).take (k-1):=by rw [List.drop_take]
      refine ⟨by rw [List.length_drop,List.length_take];omega,[],by rw [List.append_nil,e],?_⟩
      rw [c9Z];exact decide_eq_true (by omega)
   ·rename_i hc3
    obtain ⟨g1,u,g2,g3⟩:=ilZ s w r d (k+1) h1 h4 (by omega) hw' h
    refine ⟨g1,c::u,by rw [← g2,st];simp,?_⟩
    rw [c9Z,if_neg hc2,if_neg hc3,if_neg (by omega)];exact g3
def taZ (kd:Int) (t:List Int):Prop:=(kd=1→a4Z t=true)∧(kd=3→t≠[]∧t.length≤32)∧(kd=4→iZZ t=true)∧(kd=9→kpZ t=true)
theorem slZ {c:Int} {r:List Int} (hl:csZ c=true) (h:¬ 32<(bYZ aZZ (c::r):Int)):a4Z ((c::r).take (bYZ aZZ (c::r)))=true:=by
 have hle:=dLZ aZZ (c::r)
 have hpos:1≤bYZ aZZ (c::r):=by rw [bYZ,if_pos (by simp [aZZ,hl])];omega
 have hlen:((c::r).take (bYZ aZZ (c::r))).length=bYZ aZZ (c::r):=by rw [List.length_take];omega
 have hrun:∀ (l:List Int),bYZ aZZ (l.take (bYZ aZZ l))=bYZ aZZ l:=by
  intro l
  induction l with
  | nil=>rfl
  | cons a l ih =>
   rw [bYZ]
   split
   ·rename_i ha;rw [List.take_succ_cons,bYZ,if_pos ha,ih]
   ·rfl
 obtain ⟨n,hn⟩:∃ n,bYZ aZZ (c::r)=n+1:=⟨bYZ aZZ (c::r)-1,by omega⟩
 have e:(c::r).take (bYZ aZZ (c::r))=c::r.take n:=by rw [hn];rfl
 have h2:=hrun (c::r)
 rw [a4Z,gvZ,h2,hlen,decide_eq_true (by omega),decide_eq_true rfl,e]
 simp [hl]
theorem oaZ:∀ (f:Nat) (sm:Bool) (last:Int) (has:List Bool) (k:Nat) (r:List Int) {t:List Int} {m:Nat},clsL f sm last has k r=.ok (t,m)→iZZ t=true:=by
 intro f
 induction f with
 | zero=>intro sm last has k r t m h;rw [clsL] at h;cases h
 | succ f ih =>
  intro sm last has k r t m h
  cases r with
  | nil=>rw [clsL] at h;cases h
  | cons c r =>
   rw [bXZ] at h
   split at h
   ·cases h
   ·split at h
    ·split at h
     ·cases h
     ·cases h;exact hOZ _ _
    ·split at h
     ·split at h
      ·cases h
      ·split at h
       ·cases h
       ·split at h
        ·cases h
        ·split at h
         ·cases h
         ·split at h
          ·cases h
          ·split at h
           ·cases h
           ·exact ih _ _ _ _ _ h
     ·split at h
      ·cases h
      ·exact ih _ _ _ _ _ h
theorem pNZ {r:List Int} (hr:∀ c∈r,0≤c∧c<256) {kd:Int} {t:List Int} {m:Nat} (h:dVZ r=.ok (kd,t,m,true)):taZ kd t:=by
 cases r with
 | nil=>cases h
 | cons c r =>
  rw [dVZ] at h
  split at h
  ·cases h
  ·split at h
   ·cases h
   ·split at h
    ·rename_i hl
     split at h
     ·cases h
     ·rename_i h32
      cases h
      exact ⟨fun _=>slZ hl h32,fun q=>absurd q (by decide),fun q=>absurd q (by decide),fun q=>absurd q (by decide)⟩
    ·split at h
     ·obtain ⟨rfl,_,_⟩:=aYZ h
      exact ⟨fun q=>absurd q (by decide),fun q=>absurd q (by decide),fun q=>absurd q (by decide),fun q=>absurd q (by decide)⟩
     ·split at h
      ·obtain ⟨rfl,_,h⟩:=aYZ h
       rw [i7Z,List.tail_cons] at h
       have:=fLZ r.length r [] 1 (Nat.le_refl _) (fun b hb=>hr b (List.mem_cons_of_mem _ hb)) nofun h
       exact ⟨fun q=>absurd q (by decide),fun _=>⟨this.1,this.2.1⟩,fun q=>absurd q (by decide),fun q=>absurd q (by decide)⟩
      ·split at h
       ·obtain ⟨rfl,_,h⟩:=aYZ h
        exact ⟨fun q=>absurd q (by decide),fun q=>absurd q (by decide),fun _=>oaZ _ _ _ _ _ _ h,fun q=>absurd q (by decide)⟩
       ·split at h
        ·rename_i h123
         obtain ⟨rfl,_,h⟩:=aYZ h
         rw [L.actK,d1Z,if_pos h123,if_neg (by decide)] at h
         obtain ⟨g1,u,g2,g3⟩:=ilZ [] (c::r) r 1 1 (by decide) (by decide) (Nat.le_refl _) rfl h
         refine ⟨fun q=>absurd q (by decide),fun q=>absurd q (by decide),fun q=>absurd q (by decide),fun _=>?_⟩
         have:u=t:=g2
         subst this
         rw [kpZ,decide_eq_true g1,g3];rfl
        ·split at h
         ·rename_i hs
          cases h
          rcases hs with rfl | rfl | rfl | rfl <;> exact ⟨fun q=>absurd q (by decide),fun q=>absurd q (by decide),fun q=>absurd q (by decide),fun q=>absurd q (by decide)⟩
         ·cases h
end Go.Am.N
namespace Go.Am.N
open Go Go.Am.Pr Go.Am.N.L
set_option maxRecDepth 100000
theorem oZZ:∀ (l:List Bool) (i:Nat),true∈l→jZZ i l≠[]
 | [],_,h=>by cases h
 | b::l,i,h=>by
  rw [jZZ]
  split
  ·simp
  ·rename_i hb
   rcases List.mem_cons.1 h with q | q
   ·exact absurd q.symm hb
   ·exact oZZ l (i+1) q
theorem qqZ {l:List Bool} {i j:Nat} (h:true∈l):true∈l.set i true:=by
 obtain ⟨k,hk,e⟩:=List.mem_iff_getElem.1 h
 refine List.mem_iff_getElem.2 ⟨k,by rw [List.length_set];exact hk,?_⟩
 rw [List.getElem_set];split
 ·rfl
 ·exact e
theorem rMZ {l:List Bool} {i:Nat} (h:i<l.length):true∈l.set i true:=by
 refine List.mem_iff_getElem.2 ⟨i,by rw [List.length_set];exact h,?_⟩
 rw [List.getElem_set,if_pos rfl]
theorem hkZ:∀ (m:Nat) (h:List Bool) (a:Nat),true∈h→true∈bTZ h a m
 | 0,h,a,g=>g
 | m+1,h,a,g=>by rw [bTZ];exact hkZ m _ _ (qqZ (j:=0) g)
theorem tLZ:∀ (f:Nat) (sm:Bool) (last:Int) (has:List Bool) (k:Nat) (r:List Int) {t:List Int} {m:Nat},(∀ c∈r,0≤c∧c<256)→has.length=256→(sm=true→true∈has)→clsL f sm last has k r=.ok (t,m)→t≠[]:=by
 intro f
 induction f with
 | zero=>intro sm last has k r t m _ _ _ h;rw [clsL] at h;cases h
 | succ f ih =>
  intro sm last has k r t m hr hl hs h
  cases r with
  | nil=>rw [clsL] at h;cases h
  | cons c r =>
   have hr':∀ b∈r,0≤b∧b<256:=fun b hb=>hr b (List.mem_cons_of_mem _ hb)
   rw [bXZ] at h
   split at h
   ·cases h
   ·split at h
    ·split at h
     ·cases h
     ·rename_i hsm
      cases h;exact oZZ _ _ (hs (by cases sm with | true=>rfl | false=>exact absurd rfl hsm))
    ·split at h
     ·split at h
      ·cases h
      ·split at h
       ·cases h
       ·split at h
        ·cases h
        ·split at h
         ·cases h
         ·split at h
          ·cases h
          ·split at h
           ·cases h
           ·exact ih _ _ _ _ _ (fun b hb=>hr' b (List.mem_of_mem_drop hb)) (by rw [dFZ];exact hl) (fun q=>hkZ _ _ _ (hs q)) h
     ·split at h
      ·cases h
      ·rename_i y n ho
       have hy:=(cLZ hr ho).1
       exact ih _ _ _ _ _ (fun b hb=>hr b (List.mem_of_mem_drop hb)) (by rw [List.length_set];exact hl) (fun _=>rMZ (by omega)) h
end Go.Am.N
namespace Go.Am.N
open Go Go.Am.Pr Go.Am.N.L
set_option maxRecDepth 100000
theorem lqZ:∀ (l:List Bool) (i:Nat),(jZZ i l).length≤l.length
 | [],_=>Nat.le_refl _
 | b::l,i=>by
  have ih:=lqZ l (i+1)
  rw [jZZ,List.length_cons];split
  ·rw [List.length_cons];omega
  ·omega
theorem qPZ:∀ (f:Nat) (sm:Bool) (last:Int) (has:List Bool) (k:Nat) (r:List Int) {t:List Int} {m:Nat},has.length=256→clsL f sm last has k r=.ok (t,m)→By t∧t.length≤256:=by
 intro f
 induction f with
 | zero=>intro sm last has k r t m _ h;rw [clsL] at h;cases h
 | succ f ih =>
  intro sm last has k r t m hl h
  cases r with
  | nil=>rw [clsL] at h;cases h
  | cons c r =>
   rw [bXZ] at h
   split at h
   ·cases h
   ·split at h
    ·split at h
     ·cases h
     ·cases h
      have:=lqZ has 0
      exact ⟨fun c hc=>by have:=kNZ has 0 c hc;omega,by omega⟩
    ·split at h
     ·split at h
      ·cases h
      ·split at h
       ·cases h
       ·split at h
        ·cases h
        ·split at h
         ·cases h
         ·split at h
          ·cases h
          ·split at h
           ·cases h
           ·exact ih _ _ _ _ _ (by rw [dFZ];exact hl) h
     ·split at h
      ·cases h
      ·exact ih _ _ _ _ _ (by rw [List.length_set];exact hl) h
theorem h4Z (w:List Int):∀ (r:List Int) (d:Int) (k:Nat) {t:List Int} {m:Nat},d1Z w d k r=.ok (t,m)→∀ c∈t,c∈w
 | [],d,k,t,m,h=>by rw [d1Z] at h;cases h
 | c::r,d,k,t,m,h=>by
  rw [d1Z] at h
  split at h
  ·split at h
   ·cases h
   ·exact h4Z w r _ _ h
  ·split at h
   ·split at h
    ·exact h4Z w r _ _ h
    ·split at h
     ·cases h
     ·cases h
      intro c hc;exact List.mem_of_mem_take (List.mem_of_mem_drop hc)
   ·exact h4Z w r _ _ h
theorem mdZ {r:List Int} (hr:By r) {kd:Int} {t:List Int} {m:Nat} (h:dVZ r=.ok (kd,t,m,true)):By t∧(kd=4→t≠[]∧t.length≤256):=by
 cases r with
 | nil=>cases h
 | cons c r =>
  have hr':By r:=fun b hb=>hr b (List.mem_cons_of_mem _ hb)
  rw [dVZ] at h
  split at h
  ·cases h
  ·split at h
   ·cases h
   ·split at h
    ·split at h
     ·cases h
     ·cases h
      exact ⟨fun b hb=>hr b (List.mem_of_mem_take hb),fun q=>absurd q (by decide)⟩
    ·split at h
     ·obtain ⟨rfl,_,h⟩:=aYZ h
      refine ⟨?_,fun q=>absurd q (by decide)⟩
      unfold fDZ at h
      generalize (if (c::r).tail.head?=some 37 then 1 else bYZ bcZ (c::r).tail)=g at h
      dsimp only at h
      by_cases h7:(c::r).tail.take g∈wordsL
      ·rw [if_pos h7] at h;cases h
       exact fun b hb=>hr' b (List.mem_of_mem_take hb)
      ·rw [if_neg h7] at h;cases h
     ·split at h
      ·obtain ⟨rfl,_,h⟩:=aYZ h
       rw [i7Z,List.tail_cons] at h
       exact ⟨(fLZ r.length r [] 1 (Nat.le_refl _) hr' nofun h).2.2,fun q=>absurd q (by decide)⟩
      ·split at h
       ·obtain ⟨rfl,_,h⟩:=aYZ h
        rw [sFZ,List.tail_cons] at h
        have a:=qPZ _ _ _ _ _ _ (List.length_replicate ..) h
        exact ⟨a.1,fun _=>⟨tLZ _ _ _ _ _ _ hr' (List.length_replicate ..) (by decide) h,a.2⟩⟩
       ·split at h
        ·obtain ⟨rfl,_,h⟩:=aYZ h
         exact ⟨fun b hb=>hr b (h4Z _ _ _ _ h b hb),fun q=>absurd q (by decide)⟩
        ·split at h
         ·rename_i hs
          cases h
          refine ⟨nofun,?_⟩
          rcases hs with rfl | rfl | rfl | rfl <;> exact fun q=>absurd q (by decide)
         ·cases h
structure MkO (k:Int) (t:List Int):Prop where
 by_:By t
 nm:k=1→a4Z t=true
 tx:k=3→t≠[]∧t.length≤32
 cl:k=4→iZZ t=true∧t≠[]∧t.length≤256
 ac:k=9→kpZ t=true
theorem ozZ:∀ (f k:Nat) (r:List Int) {l:List Mk},By r→lexS f k r=.ok l→∀ q∈l,MkO q.1 q.2.1
 | 0,k,r,l,_,h=>by cases h;nofun
 | f+1,k,[],l,_,h=>by cases h;nofun
 | f+1,k,c::r,l,hr,h=>by
  rw [cMZ] at h
  cases hx:dVZ (c::r) with
  | error q=>rw [hx] at h;cases h
  | ok q =>
   obtain ⟨kd,t,m,ok⟩:=q
   rw [hx] at h
   simp only at h
   cases hy:lexS f (k+m) ((c::r).drop m) with
   | error q=>rw [hy] at h;cases h
   | ok l' =>
    rw [hy] at h
    have ih:=ozZ f _ _ (fun b hb=>hr b (List.mem_of_mem_drop hb)) hy
    cases ok with
    | false=>cases h;exact ih
    | true =>
     cases h
     intro q hq
     simp only [if_pos,List.mem_cons] at hq
     rcases hq with rfl | hq
     ·obtain ⟨a1,a2,a3,a4⟩:=pNZ hr hx
      obtain ⟨b1,b2⟩:=mdZ hr hx
      exact ⟨b1,a1,a2,fun q=>⟨a3 q,b2 q⟩,a4⟩
     ·exact ih q hq
abbrev A (r:List L.Mark):Prop:=∀ m∈r,MkO m.1 m.2.1
theorem A.hd {r:List L.Mark} (h:A r):MkO (hd r).1 (hd r).2.1:=by
 cases r with
 | nil=>rw [fuZ];exact ⟨nofun,fun q=>absurd q (by decide),fun q=>absurd q (by decide),fun q=>absurd q (by decide),fun q=>absurd q (by decide)⟩
 | cons m r=>rw [bWZ];exact h m (List.mem_cons_self ..)
theorem A.tl {r:List L.Mark} (h:A r):A r.tail:=fun m hm=>h m (List.mem_of_mem_tail hm)
structure PatC (p:Pat):Prop where
 ok:g2Z p=true
 b1:By p.1
 b2:By p.2.1
 ln:p.2.1.length≤256
abbrev NmC (n:List Int):Prop:=a4Z n=true∧By n
structure RlC (r:Rl):Prop where
 ok:hnZ r=true
 b1:By r.1
 b2:∀ n∈r.2.1,By n
 b3:By r.2.2.1
 b4:By r.2.2.2.1
structure C (N:Nat) (r:List L.Mark) (s:G):Prop where
  a:A r
  tk:∀ t∈s.tk,NmC t.1∧PatC t.2.1
  sk:∀ p∈s.sk,PatC p
  lv:∀ x∈s.lv,∀ n∈x.2.1,NmC n
  ln:(s.lv.flatMap (·.2.1)).length+r.length≤N
  st:s.on=true→NmC s.st
  rl:∀ r∈s.rl,RlC r
def CO (N:Nat):Out→Prop
 | (some _,_,_)=>True
 | (none,r,s)=>C N r s
theorem jsZ {α:Type} (r:List α):r.tail.length≤r.length:=by rw [List.length_tail];omega
theorem q9Z {r:List L.Mark} (h:A r):match hjZ r with
  | .error _=>True
  | .ok (p,r')=>A r'∧PatC p∧r'.length≤r.length:=by
 unfold hjZ
 have hh:=h.hd
 by_cases h3:(hd r).1=3
 ·rw [if_pos h3]
  have:=hh.tx h3
  refine ⟨h.tl,⟨?_,hh.by_,nofun,Nat.zero_le _⟩,jsZ _⟩
  unfold g2Z
  rw [if_pos this.1,decide_eq_true this.2];rfl
 ·rw [if_neg h3]
  by_cases h4:(hd r).1=4
  ·rw [if_pos h4]
   have:=hh.cl h4
   have hp:∀ b,PatC ([],((hd r).2.1,(b,()))):=fun b=>by
    refine ⟨?_,nofun,hh.by_,this.2.2⟩
    unfold g2Z
    rw [if_neg (by simp),this.1,decide_eq_false this.2.1];rfl
   by_cases h5:(hd r.tail).1=5
   ·rw [if_pos h5];exact ⟨h.tl.tl,hp _,Nat.le_trans (jsZ _) (jsZ _)⟩
   ·rw [if_neg h5];exact ⟨h.tl,hp _,jsZ _⟩
  ·rw [if_neg h4];trivial
section
variable {N:Nat} {r:List L.Mark} {s:G}
theorem qaZ (h:A r) (j:C N r s):CO N (cdZ r s):=by
 unfold cdZ
 by_cases h1:(hd r).1=1
 ·rw [if_neg (not_not_intro h1)]
  by_cases h2:Pr.mget s.tm (hd r).2.1 false=true
  ·rw [if_pos h2];trivial
  ·rw [if_neg h2]
   by_cases h3:20≤s.tk.length
   ·rw [if_pos h3];trivial
   ·rw [if_neg h3]
    have hk:=q9Z h.tl
    cases hq:hjZ r.tail with
    | error p=>trivial
    | ok q =>
     obtain ⟨p,r'⟩:=q
     rw [hq] at hk
     have hl:=jsZ r
     have:=j.ln
     refine ⟨hk.1,fun t ht=>?_,j.sk,j.lv,by have:=hk.2.2;dsimp only;omega,j.st,j.rl⟩
     rcases List.mem_append.1 ht with ht | ht
     ·exact j.tk t ht
     ·rw [List.mem_singleton] at ht;subst ht
      exact ⟨⟨h.hd.nm h1,h.hd.by_⟩,hk.2.1⟩
 ·rw [if_pos h1];trivial
theorem sPZ (w:L.Mark) (j:C N r s):CO N (elZ w r s):=by
 unfold elZ
 by_cases h3:4≤s.sk.length
 ·rw [if_pos h3];trivial
 ·rw [if_neg h3]
  have hk:=q9Z j.a
  cases hq:hjZ r with
  | error p=>trivial
  | ok q =>
   obtain ⟨p,r'⟩:=q
   rw [hq] at hk
   have:=j.ln
   refine ⟨hk.1,j.tk,fun t ht=>?_,j.lv,by have:=hk.2.2;dsimp only;omega,j.st,j.rl⟩
   rcases List.mem_append.1 ht with ht | ht
   ·exact j.sk t ht
   ·rw [List.mem_singleton] at ht;subst ht;exact hk.2.1
theorem qgZ (w:L.Mark) (j:C N r s):CO N (cNZ w r s):=by
 unfold cNZ
 by_cases h3:s.on=true
 ·rw [if_pos h3];trivial
 ·rw [if_neg h3]
  by_cases h1:(hd r).1=1
  ·rw [if_pos h1]
   have:=j.ln
   exact ⟨j.a.tl,j.tk,j.sk,j.lv,by have:=jsZ r;dsimp only;omega,fun _=>⟨j.a.hd.nm h1,j.a.hd.by_⟩,j.rl⟩
  ·rw [if_neg h1];trivial
theorem mgZ:∀ (r:List L.Mark) (ns:Ns) (lm:Mp),A r→(∀ n∈ns,NmC n)→match boZ r ns lm with
  | (some _,_,_,_)=>True
  | (none,r',_,ns')=>A r'∧(∀ n∈ns',NmC n)∧ns'.length+r'.length≤ns.length+r.length
 | [],ns,lm,h,hn=>by
  rw [boZ]
  by_cases e:ns=[]
  ·rw [if_pos e];trivial
  ·rw [if_neg e];exact ⟨h,hn,Nat.le_refl _⟩
 | m::r,ns,lm,h,hn=>by
  have ha:A r:=fun q hq=>h q (List.mem_cons_of_mem _ hq)
  have hm:=h m (List.mem_cons_self ..)
  rw [boZ]
  by_cases h1:m.1≠1
  ·rw [if_pos h1]
   by_cases e:ns=[]
   ·rw [if_pos e];trivial
   ·rw [if_neg e];exact ⟨h,hn,Nat.le_refl _⟩
  ·rw [if_neg h1]
   have h1:=Decidable.not_not.1 h1
   by_cases h2:Pr.mget lm m.2.1 false=true
   ·rw [if_pos h2];trivial
   ·rw [if_neg h2]
    have ih:=mgZ r (ns++[m.2.1]) (Pr.mset lm m.2.1 true) ha fun n hq=>by
     rcases List.mem_append.1 hq with hq | hq
     ·exact hn n hq
     ·rw [List.mem_singleton] at hq;subst hq;exact ⟨hm.nm h1,hm.by_⟩
    rcases hq:boZ r (ns++[m.2.1]) (Pr.mset lm m.2.1 true) with ⟨_ | e,r',lm',ns'⟩
    ·rw [hq] at ih
     refine ⟨ih.1,ih.2.1,?_⟩
     have:=ih.2.2
     rw [List.length_append,List.length_singleton] at this
     rw [List.length_cons];omega
    ·trivial
theorem iPZ (w:L.Mark) (j:C N r s):CO N (bbZ w r s):=by
  unfold bbZ
  by_cases h3:10≤s.lv.length
  · rw [if_pos h3];trivial
  · rw [if_neg h3]
    have hk:=mgZ r [] s.lm j.a nofun
    rcases hq:boZ r [] s.lm with ⟨_ | e,r',lm',ns'⟩
    · rw [hq] at hk
      have:=j.ln
      have h2:=hk.2.2
      refine ⟨hk.1,j.tk,j.sk,fun x hx=>?_,?_,j.st,j.rl⟩
      · rcases List.mem_append.1 hx with hx | hx
        · exact j.lv x hx
        · rw [List.mem_singleton] at hx;subst hx;exact hk.2.1
      · dsimp only
        rw [List.flatMap_append,List.length_append]
        have e:([((hbZ w.2.1:Int),(ns',()))].flatMap (·.2.1)).length=ns'.length:=by simp
        rw [e]
        simp only [List.length_nil] at h2
        omega
    · trivial
theorem ssZ (w:L.Mark) (j:C N r s) {o:Out} (ho:cIZ w r s=some o):CO N o:=by
 unfold cIZ at ho
 split at ho;· cases ho;exact qaZ j.a j
 split at ho;· cases ho;exact sPZ w j
 split at ho;· cases ho;exact iPZ w j
 split at ho;· cases ho;exact iPZ w j
 split at ho;· cases ho;exact iPZ w j
 split at ho;· cases ho;exact qgZ w j
 cases ho
theorem C.tl (j:C N r s):C N r.tail s:=⟨j.a.tl,j.tk,j.sk,j.lv,by have:=j.ln;have:=jsZ r;omega,j.st,j.rl⟩
end
theorem lLZ {N:Nat}:∀ (f:Nat) (r:List L.Mark) (s:G),C N r s→CO N (bDZ f r s)
 | 0,r,s,j=>j
 | f+1,r,s,j=>by
  rw [bDZ]
  by_cases h2:(hd r).1=2
  ·rw [if_neg (not_not_intro h2)]
   by_cases h3:(hd r).2.1=[37]
   ·rw [if_pos h3];exact j.tl
   ·rw [if_neg h3]
    cases hq:cIZ (hd r) r.tail s with
    | none=>trivial
    | some o =>
     have hk:=ssZ _ j.tl hq
     obtain ⟨_ | e,r',s'⟩:=o
     ·exact lLZ f r' s' hk
     ·trivial
  ·rw [if_pos h2];trivial
theorem l3Z:∀ (r:List L.Mark) (ns:Ns),A r→(∀ n∈ns,NmC n)→ns.length≤8→match bwZ r ns with
  | (some _,_,_)=>True
  | (none,r',ns')=>A r'∧(∀ n∈ns',NmC n)∧ns'.length≤8∧r'.length≤r.length
 | [],ns,h,hn,h8=>by rw [bwZ];exact ⟨h,hn,h8,Nat.le_refl _⟩
 | m::r,ns,h,hn,h8=>by
  have ha:A r:=fun q hq=>h q (List.mem_cons_of_mem _ hq)
  have hm:=h m (List.mem_cons_self ..)
  rw [bwZ]
  by_cases h1:m.1≠1
  ·rw [if_pos h1];exact ⟨h,hn,h8,Nat.le_refl _⟩
  ·rw [if_neg h1]
   have h1:=Decidable.not_not.1 h1
   by_cases h2:8≤ns.length
   ·rw [if_pos h2];trivial
   ·rw [if_neg h2]
    have ih:=l3Z r (ns++[m.2.1]) ha (fun n hq=>by
     rcases List.mem_append.1 hq with hq | hq
     ·exact hn n hq
     ·rw [List.mem_singleton] at hq;subst hq;exact ⟨hm.nm h1,hm.by_⟩) (by rw [List.length_append,List.length_singleton];omega)
    rcases hq:bwZ r (ns++[m.2.1]) with ⟨_ | e,r',ns'⟩
    ·rw [hq] at ih
     refine ⟨ih.1,ih.2.1,ih.2.2.1,?_⟩
     have:=ih.2.2.2
     rw [List.length_cons];omega
    ·trivial
section
variable {N:Nat} {r:List L.Mark} {s:G}
theorem riZ {left:List Int} (hl:NmC left) {ns:Ns} (hn:∀ n∈ns,NmC n) (h8:ns.length≤8) {pc:List Int} (hp:pc=[]∨NmC pc) (j:C N r s):CO N (ouZ left ns pc r s):=by
 unfold ouZ
 have ha:A (actK r).2∧(actK r).2.length≤r.length∧kpZ (actK r).1=true∧By (actK r).1:=by
  by_cases h9:(hd r).1=9
  ·rw [moZ h9];exact ⟨j.a.tl,jsZ _,j.a.hd.ac h9,j.a.hd.by_⟩
  ·rw [jOZ h9];exact ⟨j.a,Nat.le_refl _,(by decide:kpZ []=true),nofun⟩
 have:=j.ln
 refine ⟨ha.1,j.tk,j.sk,j.lv,by have:=ha.2.1;dsimp only;omega,j.st,fun x hx=>?_⟩
 rcases List.mem_append.1 hx with hx | hx
 ·exact j.rl x hx
 ·rw [List.mem_singleton] at hx;subst hx
  refine ⟨?_,hl.2,fun n hq=>(hn n hq).2,?_,ha.2.2.2⟩
  ·unfold hnZ;dsimp only
   rw [hl.1,decide_eq_true h8,List.all_eq_true.2 fun n hq=>(hn n hq).1,ha.2.2.1]
   rcases hp with rfl | hp
   ·rfl
   ·rw [hp.1,Bool.or_true];rfl
  ·rcases hp with rfl | hp
   ·exact nofun
   ·exact hp.2
theorem s7Z {left:List Int} (hl:NmC left) (j:C N r s):CO N (lHZ left r s):=by
 unfold lHZ
 by_cases h4:40≤s.rl.length
 ·rw [if_pos h4];trivial
 ·rw [if_neg h4]
  have hk:=l3Z r [] j.a nofun (Nat.zero_le _)
  rcases hq:bwZ r [] with ⟨_ | e,r',ns'⟩
  ·rw [hq] at hk
   have j':C N r' s:=⟨hk.1,j.tk,j.sk,j.lv,by have:=j.ln;have:=hk.2.2.2;omega,j.st,j.rl⟩
   show CO N (pFZ left ns' r' s)
   unfold pFZ
   by_cases h2:(hd r').1=2∧(hd r').2.1=swZ
   ·rw [if_pos h2]
    by_cases h5:(hd r'.tail).1=1
    ·rw [if_pos h5];exact riZ hl hk.2.1 hk.2.2.1 (.inr ⟨j'.a.tl.hd.nm h5,j'.a.tl.hd.by_⟩) j'.tl.tl
    ·rw [if_neg h5];trivial
   ·rw [if_neg h2];exact riZ hl hk.2.1 hk.2.2.1 (.inl rfl) j'
  ·trivial
end
theorem obZ {N:Nat} {left:List Int} (hl:NmC left):∀ (f:Nat) (r:List L.Mark) (s:G),C N r s→CO N (guZ f left r s)
 | 0,r,s,j=>j
 | f+1,r,s,j=>by
  rw [guZ]
  have hk:=s7Z hl j
  rcases hq:lHZ left r s with ⟨_ | e,r',s'⟩
  ·rw [hq] at hk
   have k2:C N r' s':=hk
   dsimp only
   by_cases h7:(hd r').1=7
   ·rw [if_pos h7];exact obZ hl f _ _ k2.tl
   ·rw [if_neg h7]
    by_cases h8:(hd r').1=8
    ·rw [if_pos h8];exact k2.tl
    ·rw [if_neg h8];trivial
  ·trivial
theorem rxZ {N:Nat} {r:List L.Mark} {s:G} (j:C N r s):CO N (deZ r s):=by
 unfold deZ
 by_cases h1:(hd r).1=1
 ·rw [if_pos h1]
  by_cases h6:(hd r.tail).1=6
  ·rw [if_pos h6];exact obZ ⟨j.a.hd.nm h1,j.a.hd.by_⟩ _ _ _ j.tl.tl
  ·rw [if_neg h6];trivial
 ·rw [if_neg h1];trivial
theorem muZ {N:Nat}:∀ (f:Nat) (r:List L.Mark) (s:G),C N r s→CO N (ciZ f r s)
 | 0,r,s,j=>j
 | f+1,r,s,j=>by
  rw [ciZ]
  by_cases hc:s.rl=[]∨(hd r).1≠0
  ·rw [if_pos hc]
   have hk:=rxZ j
   rcases hq:deZ r s with ⟨_ | e,r',s'⟩
   ·rw [hq] at hk;exact muZ f r' s' hk
   ·trivial
  ·rw [if_neg hc];exact j
theorem tgZ {N:Nat} {r:List L.Mark} {s:G} (j:C N r s):CO N (nwZ r s):=by
 unfold nwZ
 have hk:=lLZ (r.length+1) r s j
 rcases hq:bDZ (r.length+1) r s with ⟨_ | e,r',s'⟩
 ·rw [hq] at hk;exact muZ _ r' s' hk
 ·trivial
theorem C.right {N:Nat} {r:List L.Mark} {g:G} (hN:N≤10000) (j:J g) (c:C N r g) (hrl:g.rl≠[]):clZ (myZ g)=true∧ByG (myZ g)∧ByP (myZ g)∧Few (myZ g):=by
  have hst:NmC (myZ g).2.2.2.1:=by
    unfold myZ
    by_cases ho:g.on=true
    · rw [if_pos ho];exact c.st ho
    · rw [if_neg ho]
      have q:=c.rl _ (ahZ rl0 g.rl 0 (List.length_pos_iff.2 hrl))
      refine ⟨?_,q.b1⟩
      have:=q.ok
      unfold hnZ at this
      rw [Bool.and_eq_true] at this
      exact this.1
  have hg:myZ g=(g.tk,(g.sk,(g.lv,((myZ g).2.2.2.1,(g.rl,()))))):=by unfold myZ;split <;> rfl
  generalize (myZ g).2.2.2.1=st at hg hst
  rw [hg]
  have hn:∀ n∈g.lv.flatMap (·.2.1),NmC n:=fun n hn=>by
    obtain ⟨x,hx,hn⟩:=List.mem_flatMap.1 hn
    exact c.lv x hx n hn
  have l0:=List.length_pos_iff.2 hrl
  have l1:=j.tkN
  have l2:=j.skN
  have l3:=j.lvN
  have l4:=j.rlN
  have l5:=c.ln
  refine ⟨(c7Z _).2 ⟨⟨fun t ht=>(c.tk t ht).2.ok,l1,?_⟩,⟨fun x hx=>?_,l3,?_⟩,l2,fun p hp=>(c.sk p hp).ok,hst.1,l0,l4,fun r hr=>(c.rl r hr).ok⟩,⟨fun t ht=>(c.tk t ht).1.2,fun x hx n hn=>(c.lv x hx n hn).2,hst.2,fun r hr=>⟨(c.rl r hr).b1,(c.rl r hr).b2,(c.rl r hr).b3,(c.rl r hr).b4⟩⟩,⟨fun t ht=>⟨(c.tk t ht).2.b1,(c.tk t ht).2.b2⟩,fun p hp=>⟨(c.sk p hp).b1,(c.sk p hp).b2⟩⟩,?_⟩
  · unfold crZ
    rw [decide_eq_true j.tkD,List.all_eq_true.2 fun n hn=>?_];rfl
    obtain ⟨t,ht,rfl⟩:=List.mem_map.1 hn
    exact (c.tk t ht).1.1
  · obtain ⟨a1,a2,a3⟩:=j.lvA x hx
    unfold jXZ
    rw [decide_eq_true a2,decide_eq_true a3,decide_eq_false a1];rfl
  · unfold crZ
    rw [decide_eq_true j.lvD,List.all_eq_true.2 fun n h=>(hn n h).1];rfl
  · have pl : ∀ p : Pat, PatC p → p.1.length ≤ 10000 ∧ p.2.1.length ≤ 10000 := fun p hp => by
      have h1:=hp.ok
      have h2:=hp.ln
      unfold g2Z at h1
      refine ⟨?_,by omega⟩
      split at h1
      · simp only [Bool.and_eq_true,decide_eq_true_eq] at h1;omega
      · rename_i q
        rw [Decidable.not_not.1 q];exact Nat.zero_le _
    refine ⟨by dsimp only;omega,fun t ht=>⟨?_,pl _ (c.tk t ht).2⟩,by dsimp only;omega,fun p hp=>pl _ (c.sk p hp),by dsimp only;omega,by dsimp only;omega,by dsimp only;omega,fun r hr=>?_,fun r hr=>(c.rl r hr).b4⟩
    · have:=bdZ (c.tk t ht).1.1;omega
    · obtain ⟨h1,h2,h3,h4,h5⟩:=aPZ (c.rl r hr).ok
      have:=bdZ h1
      refine ⟨by omega,by omega,fun x hx=>by have:=bdZ (List.all_eq_true.1 h3 x hx);omega,?_,?_⟩
      · rcases h4 with h4 | h4
        · rw [h4];exact Nat.zero_le _
        · have:=bdZ h4;omega
      · unfold kpZ at h5
        simp only [Bool.and_eq_true,decide_eq_true_eq] at h5;omega
theorem nbZ (s:List Int) (hl:s.length≤4000) (hs:By s):(∃ c p,mDZ s=(gr0,(c,(p,())))∧c≠0)∨∃ g,mDZ s=(g,dg0)∧clZ g=true∧ByG g∧ByP g∧Few g:=by
 unfold mDZ
 cases hk:oOZ s with
 | error e =>
  obtain ⟨e,k⟩:=e
  have he:e≠0:=by
   unfold oOZ at hk
   cases hq:lexS s.length 0 s with
   | error q=>rw [hq] at hk;obtain ⟨a,b⟩:=q;cases hk;exact gwZ _ _ _ hq
   | ok q=>rw [hq] at hk;cases hk
  simp only
  rw [if_pos he]
  exact .inl ⟨e,_,rfl,he⟩
 | ok l =>
  have H:=sKZ hl hk
  have hlen:=ioZ hk
  have hA:A (l++[(0,([],(jBZ s,())))]):=by
   unfold oOZ at hk
   cases hq:lexS s.length 0 s with
   | error e=>rw [hq] at hk;cases hk
   | ok q =>
    rw [hq] at hk
    have hn:=ozZ _ _ _ hs hq
    cases hk
    intro m hm
    simp only [List.nil_append,List.mem_append,List.mem_map,List.mem_singleton] at hm
    rcases hm with ⟨q,hq,rfl⟩ | rfl
    ·exact hn q hq
    ·exact ⟨nofun,fun q=>absurd (show (0:Int)=1 from q) (by decide),fun q=>absurd (show (0:Int)=3 from q) (by decide),fun q=>absurd (show (0:Int)=4 from q) (by decide),fun q=>absurd (show (0:Int)=9 from q) (by decide)⟩
  simp only
  unfold kkZ
  have hk2:=sJZ H (r:=l++[(0,([],(jBZ s,())))]) (s:=G0) ⟨List.suffix_rfl,by simp⟩ J0
  have hc:=tgZ (N:=s.length+1) (r:=l++[(0,([],(jBZ s,())))]) (s:=G0) ⟨hA,nofun,nofun,nofun,by rw [List.length_append,List.length_singleton];show 0+_≤_;omega,nofun,nofun⟩
  rcases hq:nwZ (l++[(0,([],(jBZ s,())))]) G0 with ⟨_ | e,r',g⟩
  ·rw [hq] at hk2 hc
   exact .inr ⟨myZ g,rfl,C.right (by omega) hk2.2 hc (oMZ hq)⟩
  ·obtain ⟨c,p⟩:=e
   rw [hq] at hk2
   exact .inl ⟨c,p,rfl,hk2.2⟩
end Go.Am.N
