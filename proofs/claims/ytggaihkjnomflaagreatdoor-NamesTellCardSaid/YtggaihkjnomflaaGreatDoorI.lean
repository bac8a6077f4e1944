/-
  A part of the proof of a law: see the text that states it.
-/
import Derived.Test.YtggaihkjnomflaaGreatDoorH
set_option linter.all false
namespace Go.Am.N
open Go Go.Am.Pr Go.Am.N.L
set_option maxRecDepth 100000
theorem p8Z {r:List Int} {t:List Int} {m:Nat} (h:dVZ r=.ok (1,t,m,true)):t≠[]:=by
 cases r with
 | nil=>cases h
 | cons c r =>
  rw [dVZ] at h
  split at h
  ·cases h
  ·split at h
   ·cases h
   ·split at h
    ·rename_i hc
     split at h
     ·cases h
     ·cases h
      have hp:aZZ c=true:=by unfold aZZ;rw [hc];rfl
      simp [bYZ,hp]
    ·split at h
     ·exact absurd (aYZ h).1 (by decide)
     ·split at h
      ·exact absurd (aYZ h).1 (by decide)
      ·split at h
       ·exact absurd (aYZ h).1 (by decide)
       ·split at h
        ·exact absurd (aYZ h).1 (by decide)
        ·split at h
         ·have h1:nVZ c=1:=congrArg (fun q=>match q with | .ok (a,_)=>a | .error _=>(0:Int)) h
          unfold nVZ at h1
          split at h1
          ·cases h1
          ·split at h1
           ·cases h1
           ·split at h1 <;> cases h1
         ·cases h
theorem jRZ:∀ (f k:Nat) (r:List Int) {l:List Mk},lexS f k r=.ok l→∀ q∈l,q.1=1→q.2.1≠[]
 | 0,k,r,l,h=>by cases h;nofun
 | f+1,k,[],l,h=>by cases h;nofun
 | f+1,k,c::r,l,h=>by
  rw [cMZ] at h
  cases hx:dVZ (c::r) with
  | error q=>rw [hx] at h;cases h
  | ok q =>
   obtain ⟨kd,t,m,ok⟩:=q
   rw [hx] at h
   simp only at h
   cases hy:lexS f (k+m) ((c::r).drop m) with
   | error q=>rw [hy] at h;cases h
   | ok l' =>
    rw [hy] at h
    have ih:=jRZ f _ _ hy
    cases ok with
    | false=>cases h;exact ih
    | true =>
     cases h
     intro q hq hq1
     simp only [if_pos,List.mem_cons] at hq
     rcases hq with rfl | hq
     ·simp only at hq1;subst hq1;exact p8Z hx
     ·exact ih q hq hq1
def uCZ (s:List Int) (p:Pos):Prop:=∃ k,k≤s.length∧p=jBZ (s.take k)
theorem uIZ (s:List Int) (k:Nat):uCZ s (jBZ (s.take k)):=by
 by_cases h:k≤s.length
 ·exact ⟨k,h,rfl⟩
 ·refine ⟨s.length,Nat.le_refl _,?_⟩
  rw [List.take_of_length_le (by omega),List.take_of_length_le (Nat.le_refl _)]
theorem sKZ {s:List Int} {l:List L.Mark} (hl:s.length≤4000) (h:oOZ s=.ok l):Mk0 (uCZ s) (l++[(0,([],(jBZ s,())))]):=by
 have hlen:=ioZ h
 unfold oOZ at h
 cases hq:lexS s.length 0 s with
 | error e=>rw [hq] at h;cases h
 | ok q =>
  rw [hq] at h
  have hn:=jRZ _ _ _ hq
  cases h
  refine ⟨fun m hm=>?_,fun m hm h1=>?_,⟨_,_,rfl,rfl⟩,by rw [List.length_append];simp only [List.length_cons,List.length_nil];omega⟩
  ·simp only [List.nil_append,List.mem_append,List.mem_map,List.mem_singleton] at hm
   rcases hm with ⟨q,hq,rfl⟩ | rfl
   ·exact uIZ s _
   ·have:=uIZ s s.length
    rwa [List.take_of_length_le (Nat.le_refl _)] at this
  ·simp only [List.nil_append,List.mem_append,List.mem_map,List.mem_singleton] at hm
   rcases hm with ⟨q,hq,rfl⟩ | rfl
   ·exact hn q hq h1
   ·exact absurd (show (0:Int)=1 from h1) (by decide)
end Go.Am.N
