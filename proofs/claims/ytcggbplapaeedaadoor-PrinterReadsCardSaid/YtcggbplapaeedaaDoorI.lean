/-
  A part of the proof of a law: see the text that states it.
-/
import Derived.Test.YtcggbplapaeedaaDoorH
import Derived.Test.YtcggbplapaeedaaDoorVcG
set_option linter.all false
namespace Go.Am.R
open Go Go.Am.Pr Go.Am.R.L
set_option maxRecDepth 100000
theorem tok_name {r:List Int} {t:List Int} {m:Nat} (h:tokK r=.ok (1,t,m,true)):t≠[]:=by
 cases r with
 | nil=>cases h
 | cons c r =>
  rw [tokK] at h
  split at h
  ·cases h
  ·split at h
   ·cases h
   ·split at h
    ·rename_i hc
     split at h
     ·cases h
     ·cases h
      have hp:partK c=true:=by unfold partK;rw [hc];rfl
      simp [runK,hp]
    ·split at h
     ·exact absurd (tokOf_ok h).1 (by decide)
     ·split at h
      ·exact absurd (tokOf_ok h).1 (by decide)
      ·split at h
       ·exact absurd (tokOf_ok h).1 (by decide)
       ·split at h
        ·exact absurd (tokOf_ok h).1 (by decide)
        ·split at h
         ·have h1:signK c=1:=congrArg (fun q=>match q with | .ok (a,_)=>a | .error _=>(0:Int)) h
          unfold signK at h1
          split at h1
          ·cases h1
          ·split at h1
           ·cases h1
           ·split at h1 <;> cases h1
         ·cases h
theorem lexS_name:∀ (f k:Nat) (r:List Int) {l:List Mk},lexS f k r=.ok l→∀ q∈l,q.1=1→q.2.1≠[]
 | 0,k,r,l,h=>by cases h;nofun
 | f+1,k,[],l,h=>by cases h;nofun
 | f+1,k,c::r,l,h=>by
  rw [lexS_cons] at h
  cases hx:tokK (c::r) with
  | error q=>rw [hx] at h;cases h
  | ok q =>
   obtain ⟨kd,t,m,ok⟩:=q
   rw [hx] at h
   simp only at h
   cases hy:lexS f (k+m) ((c::r).drop m) with
   | error q=>rw [hy] at h;cases h
   | ok l' =>
    rw [hy] at h
    have ih:=lexS_name f _ _ hy
    cases ok with
    | false=>cases h;exact ih
    | true =>
     cases h
     intro q hq hq1
     simp only [if_pos,List.mem_cons] at hq
     rcases hq with rfl | hq
     ·simp only at hq1;subst hq1;exact tok_name hx
     ·exact ih q hq hq1
def AtIn (s:List Int) (p:Pos):Prop:=∃ k,k≤s.length∧p=posK (s.take k)
theorem atIn (s:List Int) (k:Nat):AtIn s (posK (s.take k)):=by
 by_cases h:k≤s.length
 ·exact ⟨k,h,rfl⟩
 ·refine ⟨s.length,Nat.le_refl _,?_⟩
  rw [List.take_of_length_le (by omega),List.take_of_length_le (Nat.le_refl _)]
theorem lexK_ok {s:List Int} {l:List L.Mark} (hl:s.length≤4000) (h:lexK s=.ok l):Mk0 (AtIn s) (l++[(0,([],(posK s,())))]):=by
 have hlen:=lexK_len h
 unfold lexK at h
 cases hq:lexS s.length 0 s with
 | error e=>rw [hq] at h;cases h
 | ok q =>
  rw [hq] at h
  have hn:=lexS_name _ _ _ hq
  cases h
  refine ⟨fun m hm=>?_,fun m hm h1=>?_,⟨_,_,rfl,rfl⟩,by rw [List.length_append];simp only [List.length_cons,List.length_nil];omega⟩
  ·simp only [List.nil_append,List.mem_append,List.mem_map,List.mem_singleton] at hm
   rcases hm with ⟨q,hq,rfl⟩ | rfl
   ·exact atIn s _
   ·have:=atIn s s.length
    rwa [List.take_of_length_le (Nat.le_refl _)] at this
  ·simp only [List.nil_append,List.mem_append,List.mem_map,List.mem_singleton] at hm
   rcases hm with ⟨q,hq,rfl⟩ | rfl
   ·exact hn q hq h1
   ·exact absurd (show (0:Int)=1 from h1) (by decide)
end Go.Am.R
