/-
  A part of the proof of a law: see the text that states it.
-/
import Derived.Test.YtggaihkjnomflaaGreatDoorLM
import Derived.Test.YtggaihkjnomflaaGreatDoorI
set_option linter.all false
namespace Go.Am.N.L
open Go Go.Am.Pr
set_option maxRecDepth 100000
theorem iLZ (p:Int→Bool) (hp:p 10=false) (x:List Int):∀ r:List Int,bYZ p (r++10::x)=bYZ p r
 | []=>by simp [bYZ,hp]
 | c::r=>by simp only [List.cons_append,bYZ,iLZ p hp x r]
theorem lDZ (x:List Int):∀ r:List Int,idxB (r++10::x) 10=if idxB r 10<0 then (r.length:Int) else idxB r 10
 | []=>by simp [idxB]
 | c::r=>by
  have hb:=cGZ r 10
  simp only [List.cons_append,idxB,lDZ x r,List.length_cons]
  by_cases h:c=10
  ·simp only [if_pos h];rfl
  ·simp only [if_neg h]
   by_cases h2:idxB r 10<0
   ·simp only [if_pos h2]
    rw [if_neg (by omega),if_pos (by omega)];omega
   ·simp only [if_neg h2]
    rw [if_neg (by omega)]
theorem llZ (x:List Int) (c:Int) (r:List Int):g1Z (c::r++10::x)=g1Z (c::r):=by
 rw [List.cons_append,g1Z,g1Z]
 by_cases h:c=92
 ·rw [if_pos h,if_pos h]
  cases r with
  | nil=>rfl
  | cons d r=>rfl
 ·rw [if_neg h,if_neg h]
theorem gDZ (x:List Int):∀ (f:Nat) (r:List Int) (out:List Int) (k:Nat),r.length≤f→textL out k (r++10::x)=textL out k r
 | f,[],out,k,_=>by rw [List.nil_append,b3Z,if_pos rfl];simp [textL]
 | 0,c::r,out,k,hf=>by simp at hf
 | f+1,c::r,out,k,hf=>by
  have hf':r.length≤f:=by simp only [List.length_cons] at hf;omega
  rw [List.cons_append,b3Z,b3Z,gDZ x f r _ _ hf']
  cases r with
  | nil =>
   have h1:qxZ s2Z 10=none:=by decide
   simp only [List.nil_append,h1]
  | cons d r =>
   simp only [List.cons_append,gDZ x f r _ _ (by simp only [List.length_cons] at hf';omega)]
theorem fKZ (w y:List Int):∀ (r:List Int) (d:Int) (k:Nat),k+r.length≤w.length→d1Z w d k r=.error (11,0)∨d1Z (w++y) d k (r++y)=d1Z w d k r
 | [],d,k,_=>.inl rfl
 | c::r,d,k,h=>by
  simp only [List.length_cons] at h
  rw [List.cons_append,d1Z,d1Z]
  by_cases h1:c=123
  ·simp only [if_pos h1]
   by_cases h2:4<d+1
   ·simp only [if_pos h2];exact .inr trivial
   ·simp only [if_neg h2];exact fKZ w y r _ _ (by omega)
  ·simp only [if_neg h1]
   by_cases h2:c=125
   ·simp only [if_pos h2]
    by_cases h3:0<d-1
    ·simp only [if_pos h3];exact fKZ w y r _ _ (by omega)
    ·simp only [if_neg h3]
     rw [List.take_append_of_le_length (by omega)]
     exact .inr rfl
   ·simp only [if_neg h2];exact fKZ w y r _ _ (by omega)
theorem iCZ (x:List Int):∀ (f g:Nat) (sm:Bool) (last:Int) (has:List Bool) (k:Nat) (r:List Int),(∀ c∈r,0≤c∧c<256)→r.length≤f→r.length<g→clsL g sm last has k (r++10::x)=clsL f sm last has k r
 | f,0,sm,last,has,k,r,_,_,hg=>by omega
 | f,g+1,sm,last,has,k,[],_,_,_=>by
  rw [List.nil_append,bXZ,if_pos rfl]
  cases f <;> rfl
 | 0,g+1,sm,last,has,k,c::r,_,hf,_=>by simp at hf
 | f+1,g+1,sm,last,has,k,c::r,hr,hf,hg=>by
  have hf':r.length≤f:=by simp only [List.length_cons] at hf;omega
  have hg':r.length<g:=by simp only [List.length_cons] at hg;omega
  have hr':∀ b∈r,0≤b∧b<256:=fun b hb=>hr b (List.mem_cons_of_mem _ hb)
  rw [List.cons_append,bXZ,bXZ]
  by_cases h1:c=10
  ·simp only [if_pos h1]
  ·simp only [if_neg h1]
   by_cases h2:c=93
   ·simp only [if_pos h2]
   ·simp only [if_neg h2]
    by_cases h3:c=45
    ·simp only [if_pos h3]
     by_cases h4:last<0
     ·simp only [if_pos h4]
     ·simp only [if_neg h4]
      cases r with
      | nil=>simp only [List.nil_append,if_pos]
      | cons d r =>
       have ho:=llZ x d r
       rw [List.cons_append] at ho
       simp only [List.cons_append,ho]
       by_cases h5:d=10
       ·simp only [if_pos h5]
       ·simp only [if_neg h5]
        by_cases h6:d=93
        ·simp only [if_pos h6]
        ·simp only [if_neg h6]
         cases hx:g1Z (d::r) with
         | none=>rfl
         | some q =>
          obtain ⟨y,j⟩:=q
          obtain ⟨_,_,h8,h9⟩:=cLZ hr' hx
          simp only
          have hd:(d::(r++10::x)).drop j=(d::r).drop j++10::x:=by
           rw [← List.cons_append,List.drop_append_of_le_length h9]
          have hld:((d::r).drop j).length≤(d::r).length-1:=by rw [List.length_drop];omega
          simp only [List.length_cons] at hld hf' hg'
          rw [hd,iCZ x f g _ _ _ _ _ (fun b hb=>hr' b (List.mem_of_mem_drop hb)) (by omega) (by omega)]
    ·simp only [if_neg h3]
     have ho:=llZ x c r
     rw [List.cons_append] at ho
     rw [ho]
     cases hx:g1Z (c::r) with
     | none=>rfl
     | some q =>
      obtain ⟨y,j⟩:=q
      obtain ⟨_,_,h8,h9⟩:=cLZ hr hx
      simp only
      have hd:(c::(r++10::x)).drop j=(c::r).drop j++10::x:=by
       rw [← List.cons_append,List.drop_append_of_le_length h9]
      have hld:((c::r).drop j).length≤(c::r).length-1:=by rw [List.length_drop];omega
      simp only [List.length_cons] at hld
      rw [hd,iCZ x f g _ _ _ _ _ (fun b hb=>hr b (List.mem_of_mem_drop hb)) (by omega) (by omega)]
theorem oXZ (x:List Int) (r:List Int):fDZ (37::r++10::x)=fDZ (37::r):=by
 unfold fDZ
 simp only [List.cons_append,List.tail_cons,iLZ bcZ (by decide)]
 have h1:(r++10::x).head?=some 37↔r.head?=some 37:=by
  cases r with
  | nil=>simp
  | cons d r=>simp
 have h2:∀ n,n≤r.length→(r++10::x).take n=r.take n:=fun n h=>List.take_append_of_le_length h
 have hg:(if r.head?=some 37 then 1 else bYZ bcZ r)≤r.length:=by
  have hrl:=dLZ bcZ r
  split
  ·rename_i h6
   cases r with
   | nil=>cases h6
   | cons d r=>simp
  ·exact hrl
 have e:(if (r++10::x).head?=some 37 then 1 else bYZ bcZ r)=(if r.head?=some 37 then 1 else bYZ bcZ r):=by
  by_cases h9:r.head?=some 37
  ·rw [if_pos h9,if_pos (h1.2 h9)]
  ·rw [if_neg h9,if_neg (fun h=>h9 (h1.1 h))]
 rw [e,h2 _ hg]
 first | rfl | (congr 1;done) | simp
theorem mdZ (x:List Int) (c:Int) (r:List Int) (hr:∀ b∈c::r,0≤b∧b<256):dVZ (c::r++10::x)=dVZ (c::r)∨∃ d,dVZ (c::r)=.error (11,d):=by
 have hc1:(c::(r++10::x))=(c::r)++10::x:=rfl
 rw [List.cons_append,dVZ,dVZ]
 by_cases h1:c=32∨c=9∨c=10∨c=13
 ·simp only [if_pos h1];exact .inl trivial
 simp only [if_neg h1]
 by_cases h2:c=35
 ·simp only [if_pos h2]
  left
  rw [hc1,lDZ]
  have hb:=cGZ (c::r) 10
  by_cases h3:idxB (c::r) 10<0
  ·simp only [if_pos h3]
   rw [if_neg (by omega),Int.toNat_natCast]
  ·simp only [if_neg h3]
 simp only [if_neg h2]
 by_cases h3:csZ c=true
 ·simp only [if_pos h3]
  left
  rw [hc1,iLZ aZZ (by decide),List.take_append_of_le_length (dLZ aZZ _)]
 simp only [if_neg h3]
 by_cases h4:c=37
 ·simp only [if_pos h4]
  left
  subst h4
  rw [hc1,oXZ]
 simp only [if_neg h4]
 by_cases h5:c=34
 ·simp only [if_pos h5]
  left
  unfold i7Z
  rw [List.tail_cons,List.tail_cons,gDZ x r.length r _ _ (Nat.le_refl _)]
 simp only [if_neg h5]
 by_cases h6:c=91
 ·simp only [if_pos h6]
  left
  unfold sFZ
  rw [List.tail_cons,List.tail_cons,iCZ x (c::r).length _ _ _ _ _ r (fun b hb=>hr b (List.mem_cons_of_mem _ hb)) (by simp) (by simp;omega)]
 simp only [if_neg h6]
 by_cases h7:c=123
 ·simp only [if_pos h7]
  unfold actK
  rcases fKZ (c::r) (10::x) (c::r) 0 0 (by simp) with h | h
  ·right;rw [h];exact ⟨0,rfl⟩
  ·left;rw [hc1,h]
 simp only [if_neg h7]
 exact .inl trivial
end Go.Am.N.L
namespace Go.Am.N.L
open Go Go.Am.Pr
set_option maxRecDepth 100000
def tks:Nat→List Int→Except Int (List (Int×List Int))
 | 0,_=>.ok []
 | f+1,r=>match r with
  | []=>.ok []
  | _::_=>match dVZ r with
   | .error (e,_)=>.error e
   | .ok (kd,t,m,ok)=>match tks f (r.drop m) with
    | .error e=>.error e
    | .ok l=>.ok (if ok then (kd,t)::l else l)
theorem qIZ (f : Nat) (c : Int) (r : List Int) : tks (f + 1) (c :: r) = match dVZ (c :: r) with
      | .error (e,_)=>.error e
      | .ok (kd,t,m,ok)=>match tks f ((c::r).drop m) with
        | .error e=>.error e
        | .ok l=>.ok (if ok then (kd,t)::l else l):=by
  rw [tks.eq_def]
def iWZ:Except (Int×Nat) (List Mk)→Except Int (List (Int×List Int))
 | .error (e,_)=>.error e
 | .ok l=>.ok (l.map fun q=>(q.1,q.2.1))
def kt (q:Mark):Int×List Int:=(q.1,q.2.1)
end Go.Am.N.L
namespace Go.Am.N
open Go Go.Am.Pr Go.Am.N.L
set_option maxRecDepth 100000
abbrev Kt:=Int×List Int
def pre (ms:List Kt):Except Int (List Kt)→Except Int (List Kt)
 | .error e=>.error e
 | .ok l=>.ok (ms++l)
theorem saZ (x:Except Int (List Kt)):pre [] x=x:=by cases x <;> rfl
theorem ryZ (a b:List Kt) (x:Except Int (List Kt)):pre a (pre b x)=pre (a++b) x:=by
 cases x with
 | error e=>rfl
 | ok l=>simp [pre]
def uEZ (k:Nat) (ms:List Mk):Except (Int×Nat) (List Mk)→Except (Int×Nat) (List Mk)
 | .error e=>.error e
 | .ok l=>.ok (ms.map (fun q=>(q.1,q.2.1,k+q.2.2))++l)
def Tok (a:List Int) (kd:Int) (t:List Int) (ok:Bool) (B:List Int→Prop):Prop:=a≠[]∧∀ x,B x→dVZ (a++x)=.ok (kd,t,a.length,ok)
abbrev Any (_:List Int):Prop:=True
def Lx (a:List Int) (ms:List Kt) (B:List Int→Prop):Prop:=∃ n,n≤a.length∧∀ f x,B x→tks (f+n) (a++x)=pre ms (tks f x)
def LxP (a:List Int) (ms:List Mk) (B:List Int→Prop):Prop:=∃ n,n≤a.length∧∀ f k x,B x→lexS (f+n) k (a++x)=uEZ k ms (lexS f (k+a.length) x)
theorem Lx.nil:Lx [] [] Any:=⟨0,Nat.le_refl _,fun f x _=>(saZ _).symm⟩
theorem LxP.nil:LxP [] [] Any:=⟨0,Nat.le_refl _,fun f k x _=>by
 simp only [List.nil_append,List.length_nil,Nat.add_zero]
 cases lexS f k x <;> rfl⟩
theorem Lx.app {a b:List Int} {ms ms':List Kt} {B B':List Int→Prop} (h:Lx a ms B) (g:Lx b ms' B') (hB:∀ x,B' x→B (b++x)):Lx (a++b) (ms++ms') B':=by
 obtain ⟨n,hn,h⟩:=h
 obtain ⟨m,hm,g⟩:=g
 refine ⟨m+n,by rw [List.length_append];omega,fun f x hx=>?_⟩
 rw [List.append_assoc,← Nat.add_assoc,h _ _ (hB x hx),g f x hx,ryZ]
theorem LxP.app {a b:List Int} {ms ms':List Mk} {B B':List Int→Prop} (h:LxP a ms B) (g:LxP b ms' B') (hB:∀ x,B' x→B (b++x)):LxP (a++b) (ms++ms'.map fun q=>(q.1,q.2.1,a.length+q.2.2)) B':=by
 obtain ⟨n,hn,h⟩:=h
 obtain ⟨m,hm,g⟩:=g
 refine ⟨m+n,by rw [List.length_append];omega,fun f k x hx=>?_⟩
 rw [List.append_assoc,← Nat.add_assoc,h _ _ _ (hB x hx),g f _ x hx,List.length_append,← Nat.add_assoc]
 cases lexS f (k+a.length+b.length) x with
 | error e=>rfl
 | ok l=>simp [uEZ,Nat.add_assoc,Function.comp_def]
theorem Lx.mono {a:List Int} {ms:List Kt} {B B':List Int→Prop} (h:Lx a ms B) (hB:∀ x,B' x→B x):Lx a ms B':=by
 obtain ⟨n,hn,h⟩:=h
 exact ⟨n,hn,fun f x hx=>h f x (hB x hx)⟩
theorem LxP.mono {a:List Int} {ms:List Mk} {B B':List Int→Prop} (h:LxP a ms B) (hB:∀ x,B' x→B x):LxP a ms B':=by
 obtain ⟨n,hn,h⟩:=h
 exact ⟨n,hn,fun f k x hx=>h f k x (hB x hx)⟩
theorem Tok.lx {a:List Int} {kd:Int} {t:List Int} {ok:Bool} {B:List Int→Prop} (h:Tok a kd t ok B):Lx a (if ok then [(kd,t)] else []) B:=by
 obtain ⟨h0,h⟩:=h
 refine ⟨1,List.length_pos_iff.2 h0,fun f x hx=>?_⟩
 have hx:=h x hx
 cases a with
 | nil=>exact absurd rfl h0
 | cons c a =>
  rw [List.cons_append,qIZ]
  rw [List.cons_append] at hx
  rw [hx]
  simp only [← List.cons_append,List.drop_left]
  cases tks f x with
  | error e=>rfl
  | ok l=>cases ok <;> rfl
theorem Tok.any {a:List Int} {kd:Int} {t:List Int} {ok:Bool} {B:List Int→Prop} (h:Tok a kd t ok B) {B':List Int→Prop} (g:∀ x,B' x→B x):Tok a kd t ok B':=⟨h.1,fun x hx=>h.2 x (g x hx)⟩
theorem l5Z (p:Int→Bool):∀ (w:List Int),bYZ p w=w.length→∀ c∈w,p c=true
 | [],_,c,hc=>by cases hc
 | a::w,h,c,hc=>by
  rw [bYZ] at h
  split at h
  ·rename_i ha
   rcases List.mem_cons.1 hc with rfl | hc
   ·exact ha
   ·exact l5Z p w (by simpa using h) c hc
  ·simp at h
end Go.Am.N
