/-
  A part of the proof of a law: see the text that states it.
-/
import Derived.Test.YtggaihkjnomflaaGreatDoorLH
import Derived.Test.YtggaihkjnomflaaGreatDoorVc3
set_option linter.all false
namespace Go.Am.N.L
open Go Go.Am.Pr
set_option maxRecDepth 100000
def d4Z:List Int→Int→Int
 | [],_=>-1
 | a::l,c=>if 0≤d4Z l c then d4Z l c+1 else if a=c then 0 else -1
theorem haZ (c:Int):∀ (l:List Int) (a:Int),d4Z (l++[a]) c=if a=c then (l.length:Int) else d4Z l c
 | [],a=>by simp [d4Z]
 | b::l,a=>by
  simp only [List.cons_append,d4Z,haZ c l a,List.length_cons]
  by_cases h:a=c
  ·simp only [if_pos h];rw [if_pos (by omega)];omega
  ·simp only [if_neg h]
theorem f1Z (c:Int):∀ l:List Int,-1≤d4Z l c∧(d4Z l c<l.length)
 | []=>by simp [d4Z]
 | b::l=>by
  have:=f1Z c l
  simp only [d4Z,List.length_cons]
  split
  ·omega
  ·split <;> omega
theorem rFZ (s:List Int) (c:Int) (hl:s.length≤1000000):E 99 [.tv [] .str s,.tv [] (.int .u8) c] [] (.tv [] (.int .i64) (d4Z s c)) []:=by
 refine arZ (wdZ s c _ ?_)
 refine ⟨⟨by omega⟩,fun z=>∃ k:Nat,z=(k:Int)-1∧k≤s.length∧d4Z (s.take k) c=d4Z s c,fun z=>(z+1).toNat,⟨s.length,rfl,by omega,by simp⟩,?_⟩
 rintro z ⟨k,rfl,hk,hv⟩
 refine ⟨fun h=>?_,fun h=>?_⟩
 ·(simp only [dq1,dq2,dq3,dq4] at h)
  obtain ⟨j,rfl⟩:∃ j,k=j+1:=⟨k-1,by omega⟩
  have e1:(((j+1:Nat):Int)-1)=(j:Int):=by omega
  rw [aaZ (0:Int) (by omega),haZ] at hv
  rw [e1,Int.toNat_natCast]
  refine ⟨⟨by omega⟩,fun h2=>?_,fun h2=>⟨⟨by omega⟩,⟨j,by omega,by omega,?_⟩,⟨by ((try dsimp only);omega)⟩⟩⟩
  ·(simp only [dq1,dq2,dq3,dq4] at h2)
   rw [if_pos h2,List.length_take] at hv
   exact ⟨tvI (by omega),rfl⟩
  ·(simp only [dq1,dq2,dq3,dq4] at h2)
   rw [if_neg h2] at hv;exact hv
 ·(simp only [dq1,dq2,dq3,dq4] at h)
  have:k=0:=by omega
  subst this
  exact ⟨tvI (by rw [← hv];simp [d4Z]),rfl⟩
theorem qQZ (s:List Int) (c:Int) (hl:s.length≤1000000):E 82 [.tv [] .str s,.tv [] (.int .u8) c] [] (.tv [] (.int .i64) (d4Z s c)) []:=arZ (uYZ s c _ ⟨_,⟨rFZ s c hl⟩,rfl,rfl⟩)
theorem qRZ (s:List Int) (c:Int):E 81 [.tv [] .str s,.tv [] .str [c]] [] (.tv [] (.int .i64) (cntB s c)) []:=arZ (vFZ s c _ ⟨rfl,rfl⟩)
theorem hvZ (c:Int):∀ l:List Int,0≤cntB l c∧cntB l c≤l.length
 | []=>by simp [cntB]
 | b::l=>by
  have:=hvZ c l
  simp only [cntB,List.length_cons]
  split <;> omega
def jBZ (a:List Int):Int×Int×Unit:=(1+cntB a 10,(a.length:Int)-d4Z a 10,())
theorem tKZ (s:List Int) (i:Int) (hl:s.length≤1000000):E 56 [.tv [] .str s,.tv [] (.int .i64) i] [] (.tv [] W3 (jBZ (s.take (max 0 (min i s.length)).toNat))) []:=by
 refine arZ (u4Z s i _ ?_)
 have hcut:cut s 0 (Int.toNat (max 0 (min i (s.length:Int))))=s.take (max 0 (min i (s.length:Int))).toNat:=by simp [cut]
 rw [hcut]
 generalize hm:s.take (max 0 (min i (s.length:Int))).toNat=a
 have ha:a.length≤s.length:=by rw [← hm,List.length_take];omega
 have h1:=hvZ 10 a
 have h2:=f1Z 10 a
 refine ⟨⟨by omega⟩,_,⟨qRZ a 10⟩,⟨by omega⟩,_,⟨qQZ a 10 (by omega)⟩,⟨by omega⟩,rfl,rfl⟩
end Go.Am.N.L
namespace Go.Am.N.L
open Go Go.Am.Pr
set_option maxRecDepth 100000
theorem gEZ:∀ (f:Nat) (r:List Int) (out:List Int) (k:Nat) {t:List Int} {m:Nat},r.length≤f→textL out k r=.ok (t,m)→k+1≤m∧m≤k+r.length
 | f,[],out,k,t,m,_,h=>by simp [textL] at h
 | 0,c::r,out,k,t,m,hf,h=>by simp at hf
 | f+1,c::r,out,k,t,m,hf,h=>by
  rw [b3Z] at h
  simp only [List.length_cons] at hf ⊢
  split at h
  ·cases h
  ·split at h
   ·split at h
    ·cases h
    ·split at h
     ·cases h
     ·cases h;omega
   ·split at h
    ·cases r with
     | nil=>cases h
     | cons d r =>
      simp only at h
      split at h
      ·cases h
      ·have:=gEZ f r _ _ (by simp at hf;omega) h
       simp only [List.length_cons];omega
    ·have:=gEZ f r _ _ (by omega) h
     omega
theorem fIZ:∀ (r w:List Int) (d:Int) (k:Nat) {t:List Int} {m:Nat},d1Z w d k r=.ok (t,m)→k+1≤m∧m≤k+r.length
 | [],w,d,k,t,m,h=>by simp [d1Z] at h
 | c::r,w,d,k,t,m,h=>by
  simp only [d1Z] at h
  simp only [List.length_cons]
  split at h
  ·split at h
   ·cases h
   ·have:=fIZ r _ _ _ h;omega
  ·split at h
   ·split at h
    ·have:=fIZ r _ _ _ h;omega
    ·split at h
     ·cases h
     ·cases h;omega
   ·have:=fIZ r _ _ _ h;omega
theorem pGZ (f:Nat):∀ (sm:Bool) (last:Int) (has:List Bool) (k:Nat) (r:List Int) {t:List Int} {m:Nat},(∀ c∈r,0≤c∧c<256)→clsL f sm last has k r=.ok (t,m)→k+1≤m∧m≤k+r.length:=by
 induction f with
 | zero=>intro sm last has k r t m _ h;cases h
 | succ f ih =>
  intro sm last has k r t m hr h
  cases r with
  | nil=>cases h
  | cons c r =>
   rw [bXZ] at h
   simp only [List.length_cons]
   split at h
   ·cases h
   ·split at h
    ·split at h
     ·cases h
     ·cases h;omega
    ·split at h
     ·split at h
      ·cases h
      ·cases r with
       | nil=>cases h
       | cons d r =>
        simp only at h
        split at h
        ·cases h
        ·split at h
         ·cases h
         ·cases hx:g1Z (d::r) with
          | none=>rw [hx] at h;cases h
          | some q =>
           obtain ⟨y,j⟩:=q
           rw [hx] at h
           simp only at h
           have h2:∀ c∈d::r,0≤c∧c<256:=fun b hb=>hr b (List.mem_cons_of_mem _ hb)
           obtain ⟨_,h3,h4,h5⟩:=cLZ h2 hx
           split at h
           ·cases h
           ·have:=ih _ _ _ _ _ (fun b hb=>h2 b (List.mem_of_mem_drop hb)) h
            simp only [List.length_drop] at this
            omega
     ·cases hx:g1Z (c::r) with
      | none=>rw [hx] at h;cases h
      | some q =>
       obtain ⟨y,j⟩:=q
       rw [hx] at h
       simp only at h
       obtain ⟨_,h3,h4,h5⟩:=cLZ hr hx
       have:=ih _ _ _ _ _ (fun b hb=>hr b (List.mem_of_mem_drop hb)) h
       simp only [List.length_drop,List.length_cons] at this h5
       omega
end Go.Am.N.L
namespace Go.Am.N.L
open Go Go.Am.Pr
set_option maxRecDepth 100000
theorem aYZ {kd:Int} {o:Res} {kind:Int} {t:List Int} {m:Nat} {ok:Bool} (h:iyZ kd o=.ok (kind,t,m,ok)):kind=kd∧ok=true∧o=.ok (t,m):=by
 match o,h with
 | .ok (a,b),h=>cases h;exact ⟨rfl,rfl,rfl⟩
theorem qmZ {x t:List Int} {m:Nat} (h:fDZ x=.ok (t,m)):∃ g,g≤x.tail.length∧m=1+g∧t=x.tail.take g∧t∈wordsL:=by
 have hg:(if x.tail.head?=some 37 then 1 else bYZ bcZ x.tail)≤x.tail.length:=by
  have hrl:=dLZ bcZ x.tail
  split
  ·rename_i h6
   cases hx:x.tail with
   | nil=>rw [hx] at h6;cases h6
   | cons d r=>simp
  ·exact hrl
 unfold fDZ at h
 generalize (if x.tail.head?=some 37 then 1 else bYZ bcZ x.tail)=g at h hg
 dsimp only at h
 by_cases h7:x.tail.take g∈wordsL
 ·rw [if_pos h7] at h;cases h;exact ⟨g,hg,rfl,rfl,h7⟩
 ·rw [if_neg h7] at h;cases h
theorem pHZ {r:List Int} (hr:∀ c∈r,0≤c∧c<256) {kind:Int} {t:List Int} {m:Nat} {ok:Bool} (h:dVZ r=.ok (kind,t,m,ok)):1≤m∧m≤r.length:=by
 cases r with
 | nil=>cases h
 | cons c r =>
  have hr':∀ b∈r,0≤b∧b<256:=fun b hb=>hr b (List.mem_cons_of_mem _ hb)
  rw [dVZ] at h
  split at h
  ·cases h;simp
  ·split at h
   ·rename_i h1
    cases h
    split
    ·simp
    ·rename_i h2
     have hb:=cGZ (c::r) 10
     have h3:idxB (c::r) 10≠0:=by
      simp only [idxB]
      rw [if_neg (by omega)]
      have:=cGZ r 10
      split <;> omega
     omega
   ·split at h
    ·rename_i h1
     split at h
     ·cases h
     ·cases h
      have:=dLZ aZZ (c::r)
      refine ⟨?_,this⟩
      simp only [bYZ]
      rw [if_pos (by simp [aZZ,h1])]
      omega
    ·split at h
     ·obtain ⟨_,_,h⟩:=aYZ h
      obtain ⟨g,hg,h7,_,_⟩:=qmZ h
      simp only [List.tail_cons,List.length_cons] at hg ⊢;omega
     ·split at h
      ·obtain ⟨_,_,h⟩:=aYZ h
       have:=gEZ r.length r [] 1 (Nat.le_refl _) h
       simp only [List.length_cons];omega
      ·split at h
       ·obtain ⟨_,_,h⟩:=aYZ h
        have:=pGZ _ _ _ _ _ r hr' h
        simp only [List.length_cons];omega
       ·split at h
        ·obtain ⟨_,_,h⟩:=aYZ h
         have:=fIZ _ _ _ _ h
         simp only [List.length_cons] at this ⊢;omega
        ·split at h
         ·cases h;simp
         ·cases h
end Go.Am.N.L
