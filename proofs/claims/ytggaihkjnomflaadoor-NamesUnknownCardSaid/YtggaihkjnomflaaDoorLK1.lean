/-
  A part of the proof of a law: see the text that states it.
-/
import Derived.Test.YtggaihkjnomflaaDoorLH
import Derived.Test.YtggaihkjnomflaaDoorVc3
set_option linter.all false
namespace Go.Am.D.L
open Go Go.Am.Pr
set_option maxRecDepth 100000
def lastB:List Int→Int→Int
 | [],_=>-1
 | a::l,c=>if 0≤lastB l c then lastB l c+1 else if a=c then 0 else -1
theorem lastB_snoc (c:Int):∀ (l:List Int) (a:Int),lastB (l++[a]) c=if a=c then (l.length:Int) else lastB l c
 | [],a=>by simp [lastB]
 | b::l,a=>by
  simp only [List.cons_append,lastB,lastB_snoc c l a,List.length_cons]
  by_cases h:a=c
  ·simp only [if_pos h];rw [if_pos (by omega)];omega
  ·simp only [if_neg h]
theorem lastB_bound (c:Int):∀ l:List Int,-1≤lastB l c∧(lastB l c<l.length)
 | []=>by simp [lastB]
 | b::l=>by
  have:=lastB_bound c l
  simp only [lastB,List.length_cons]
  split
  ·omega
  ·split <;> omega
theorem last_ev (s:List Int) (c:Int) (hl:s.length≤1000000):E 86 [.tv [] .str s,.tv [] (.int .u8) c] [] (.tv [] (.int .i64) (lastB s c)) []:=by
 refine ev_of (vc86 s c _ ?_)
 refine ⟨⟨by omega⟩,fun z=>∃ k:Nat,z=(k:Int)-1∧k≤s.length∧lastB (s.take k) c=lastB s c,fun z=>(z+1).toNat,⟨s.length,rfl,by omega,by simp⟩,?_⟩
 rintro z ⟨k,rfl,hk,hv⟩
 refine ⟨fun h=>?_,fun h=>?_⟩
 ·(simp only [decide_eq_true_eq,decide_eq_false_iff_not,Bool.not_eq_true',Bool.not_eq_false'] at h)
  obtain ⟨j,rfl⟩:∃ j,k=j+1:=⟨k-1,by omega⟩
  have e1:(((j+1:Nat):Int)-1)=(j:Int):=by omega
  rw [take_snoc (0:Int) (by omega),lastB_snoc] at hv
  rw [e1,Int.toNat_natCast]
  refine ⟨⟨by omega⟩,fun h2=>?_,fun h2=>⟨⟨by omega⟩,⟨j,by omega,by omega,?_⟩,⟨by ((try dsimp only);omega)⟩⟩⟩
  ·(simp only [decide_eq_true_eq,decide_eq_false_iff_not,Bool.not_eq_true',Bool.not_eq_false'] at h2)
   rw [if_pos h2,List.length_take] at hv
   exact ⟨tvI (by omega),rfl⟩
  ·(simp only [decide_eq_true_eq,decide_eq_false_iff_not,Bool.not_eq_true',Bool.not_eq_false'] at h2)
   rw [if_neg h2] at hv;exact hv
 ·(simp only [decide_eq_true_eq,decide_eq_false_iff_not,Bool.not_eq_true',Bool.not_eq_false'] at h)
  have:k=0:=by omega
  subst this
  exact ⟨tvI (by rw [← hv];simp [lastB]),rfl⟩
theorem last1_ev (s:List Int) (c:Int) (hl:s.length≤1000000):E 71 [.tv [] .str s,.tv [] (.int .u8) c] [] (.tv [] (.int .i64) (lastB s c)) []:=ev_of (vc71 s c _ ⟨_,⟨last_ev s c hl⟩,rfl,rfl⟩)
theorem count_ev (s:List Int) (c:Int):E 70 [.tv [] .str s,.tv [] .str [c]] [] (.tv [] (.int .i64) (cntB s c)) []:=ev_of (vc70 s c _ ⟨rfl,rfl⟩)
theorem cntB_bound (c:Int):∀ l:List Int,0≤cntB l c∧cntB l c≤l.length
 | []=>by simp [cntB]
 | b::l=>by
  have:=cntB_bound c l
  simp only [cntB,List.length_cons]
  split <;> omega
def posK (a:List Int):Int×Int×Unit:=(1+cntB a 10,(a.length:Int)-lastB a 10,())
theorem at_ev (s:List Int) (i:Int) (hl:s.length≤1000000):E 47 [.tv [] .str s,.tv [] (.int .i64) i] [] (.tv [] W3 (posK (s.take (max 0 (min i s.length)).toNat))) []:=by
 refine ev_of (vc47 s i _ ?_)
 have hcut:cut s 0 (Int.toNat (max 0 (min i (s.length:Int))))=s.take (max 0 (min i (s.length:Int))).toNat:=by simp [cut]
 rw [hcut]
 generalize hm:s.take (max 0 (min i (s.length:Int))).toNat=a
 have ha:a.length≤s.length:=by rw [← hm,List.length_take];omega
 have h1:=cntB_bound 10 a
 have h2:=lastB_bound 10 a
 refine ⟨⟨by omega⟩,_,⟨count_ev a 10⟩,⟨by omega⟩,_,⟨last1_ev a 10 (by omega)⟩,⟨by omega⟩,rfl,rfl⟩
end Go.Am.D.L
namespace Go.Am.D.L
open Go Go.Am.Pr
set_option maxRecDepth 100000
theorem textL_len:∀ (f:Nat) (r:List Int) (out:List Int) (k:Nat) {t:List Int} {m:Nat},r.length≤f→textL out k r=.ok (t,m)→k+1≤m∧m≤k+r.length
 | f,[],out,k,t,m,_,h=>by simp [textL] at h
 | 0,c::r,out,k,t,m,hf,h=>by simp at hf
 | f+1,c::r,out,k,t,m,hf,h=>by
  rw [textL_cons] at h
  simp only [List.length_cons] at hf ⊢
  split at h
  ·cases h
  ·split at h
   ·split at h
    ·cases h
    ·split at h
     ·cases h
     ·cases h;omega
   ·split at h
    ·cases r with
     | nil=>cases h
     | cons d r =>
      simp only at h
      split at h
      ·cases h
      ·have:=textL_len f r _ _ (by simp at hf;omega) h
       simp only [List.length_cons];omega
    ·have:=textL_len f r _ _ (by omega) h
     omega
theorem actL_len:∀ (r w:List Int) (d:Int) (k:Nat) {t:List Int} {m:Nat},actL w d k r=.ok (t,m)→k+1≤m∧m≤k+r.length
 | [],w,d,k,t,m,h=>by simp [actL] at h
 | c::r,w,d,k,t,m,h=>by
  simp only [actL] at h
  simp only [List.length_cons]
  split at h
  ·split at h
   ·cases h
   ·have:=actL_len r _ _ _ h;omega
  ·split at h
   ·split at h
    ·have:=actL_len r _ _ _ h;omega
    ·split at h
     ·cases h
     ·cases h;omega
   ·have:=actL_len r _ _ _ h;omega
theorem clsL_len (f:Nat):∀ (sm:Bool) (last:Int) (has:List Bool) (k:Nat) (r:List Int) {t:List Int} {m:Nat},(∀ c∈r,0≤c∧c<256)→clsL f sm last has k r=.ok (t,m)→k+1≤m∧m≤k+r.length:=by
 induction f with
 | zero=>intro sm last has k r t m _ h;cases h
 | succ f ih =>
  intro sm last has k r t m hr h
  cases r with
  | nil=>cases h
  | cons c r =>
   rw [clsL_cons] at h
   simp only [List.length_cons]
   split at h
   ·cases h
   ·split at h
    ·split at h
     ·cases h
     ·cases h;omega
    ·split at h
     ·split at h
      ·cases h
      ·cases r with
       | nil=>cases h
       | cons d r =>
        simp only at h
        split at h
        ·cases h
        ·split at h
         ·cases h
         ·cases hx:oneS (d::r) with
          | none=>rw [hx] at h;cases h
          | some q =>
           obtain ⟨y,j⟩:=q
           rw [hx] at h
           simp only at h
           have h2:∀ c∈d::r,0≤c∧c<256:=fun b hb=>hr b (List.mem_cons_of_mem _ hb)
           obtain ⟨_,h3,h4,h5⟩:=oneS_byte h2 hx
           split at h
           ·cases h
           ·have:=ih _ _ _ _ _ (fun b hb=>h2 b (List.mem_of_mem_drop hb)) h
            simp only [List.length_drop] at this
            omega
     ·cases hx:oneS (c::r) with
      | none=>rw [hx] at h;cases h
      | some q =>
       obtain ⟨y,j⟩:=q
       rw [hx] at h
       simp only at h
       obtain ⟨_,h3,h4,h5⟩:=oneS_byte hr hx
       have:=ih _ _ _ _ _ (fun b hb=>hr b (List.mem_of_mem_drop hb)) h
       simp only [List.length_drop,List.length_cons] at this h5
       omega
end Go.Am.D.L
namespace Go.Am.D.L
open Go Go.Am.Pr
set_option maxRecDepth 100000
theorem tokOf_ok {kd:Int} {o:Res} {kind:Int} {t:List Int} {m:Nat} {ok:Bool} (h:tokOf kd o=.ok (kind,t,m,ok)):kind=kd∧ok=true∧o=.ok (t,m):=by
 match o,h with
 | .ok (a,b),h=>cases h;exact ⟨rfl,rfl,rfl⟩
theorem wordK_ok {x t:List Int} {m:Nat} (h:wordK x=.ok (t,m)):∃ g,g≤x.tail.length∧m=1+g∧t=x.tail.take g∧t∈wordsL:=by
 have hg:(if x.tail.head?=some 37 then 1 else runK lowerK x.tail)≤x.tail.length:=by
  have hrl:=runK_le lowerK x.tail
  split
  ·rename_i h6
   cases hx:x.tail with
   | nil=>rw [hx] at h6;cases h6
   | cons d r=>simp
  ·exact hrl
 unfold wordK at h
 generalize (if x.tail.head?=some 37 then 1 else runK lowerK x.tail)=g at h hg
 dsimp only at h
 by_cases h7:x.tail.take g∈wordsL
 ·rw [if_pos h7] at h;cases h;exact ⟨g,hg,rfl,rfl,h7⟩
 ·rw [if_neg h7] at h;cases h
theorem tokK_len {r:List Int} (hr:∀ c∈r,0≤c∧c<256) {kind:Int} {t:List Int} {m:Nat} {ok:Bool} (h:tokK r=.ok (kind,t,m,ok)):1≤m∧m≤r.length:=by
 cases r with
 | nil=>cases h
 | cons c r =>
  have hr':∀ b∈r,0≤b∧b<256:=fun b hb=>hr b (List.mem_cons_of_mem _ hb)
  rw [tokK] at h
  split at h
  ·cases h;simp
  ·split at h
   ·rename_i h1
    cases h
    split
    ·simp
    ·rename_i h2
     have hb:=idxB_bound (c::r) 10
     have h3:idxB (c::r) 10≠0:=by
      simp only [idxB]
      rw [if_neg (by omega)]
      have:=idxB_bound r 10
      split <;> omega
     omega
   ·split at h
    ·rename_i h1
     split at h
     ·cases h
     ·cases h
      have:=runK_le partK (c::r)
      refine ⟨?_,this⟩
      simp only [runK]
      rw [if_pos (by simp [partK,h1])]
      omega
    ·split at h
     ·obtain ⟨_,_,h⟩:=tokOf_ok h
      obtain ⟨g,hg,h7,_,_⟩:=wordK_ok h
      simp only [List.tail_cons,List.length_cons] at hg ⊢;omega
     ·split at h
      ·obtain ⟨_,_,h⟩:=tokOf_ok h
       have:=textL_len r.length r [] 1 (Nat.le_refl _) h
       simp only [List.length_cons];omega
      ·split at h
       ·obtain ⟨_,_,h⟩:=tokOf_ok h
        have:=clsL_len _ _ _ _ _ r hr' h
        simp only [List.length_cons];omega
       ·split at h
        ·obtain ⟨_,_,h⟩:=tokOf_ok h
         have:=actL_len _ _ _ _ h
         simp only [List.length_cons] at this ⊢;omega
        ·split at h
         ·cases h;simp
         ·cases h
end Go.Am.D.L
