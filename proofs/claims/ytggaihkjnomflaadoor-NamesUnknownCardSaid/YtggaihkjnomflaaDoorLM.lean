/-
  A part of the proof of a law: see the text that states it.
-/
import Derived.Test.YtggaihkjnomflaaDoorLN
set_option linter.all false
namespace Go.Am.D.L
open Go Go.Am.Pr
set_option maxRecDepth 100000
theorem text_code:∀ (f:Nat) (r out:List Int) (k:Nat) {e:Int} {d:Nat},r.length≤f→textL out k r=.error (e,d)→e≠0
 | f,[],out,k,e,d,_,h=>by cases h;decide
 | 0,c::r,out,k,e,d,hf,h=>by simp at hf
 | f+1,c::r,out,k,e,d,hf,h=>by
  rw [textL_cons] at h
  simp only [List.length_cons] at hf
  split at h
  ·cases h;decide
  ·split at h
   ·split at h
    ·cases h;decide
    ·split at h
     ·cases h;decide
     ·cases h
   ·split at h
    ·cases r with
     | nil=>cases h;decide
     | cons d r =>
      simp only at h
      split at h
      ·cases h;decide
      ·exact text_code f r _ _ (by simp at hf;omega) h
    ·exact text_code f r _ _ (by omega) h
theorem act_code:∀ (r w:List Int) (d:Int) (k:Nat) {e:Int} {j:Nat},actL w d k r=.error (e,j)→e≠0
 | [],w,d,k,e,j,h=>by cases h;decide
 | c::r,w,d,k,e,j,h=>by
  simp only [actL] at h
  split at h
  ·split at h
   ·cases h;decide
   ·exact act_code r _ _ _ h
  ·split at h
   ·split at h
    ·exact act_code r _ _ _ h
    ·split at h
     ·cases h;decide
     ·cases h
   ·exact act_code r _ _ _ h
theorem cls_code (f:Nat):∀ (sm:Bool) (last:Int) (has:List Bool) (k:Nat) (r:List Int) {e:Int} {j:Nat},clsL f sm last has k r=.error (e,j)→e≠0:=by
 induction f with
 | zero=>intro sm last has k r e j h;cases h;decide
 | succ f ih =>
  intro sm last has k r e j h
  cases r with
  | nil=>cases h;decide
  | cons c r =>
   rw [clsL_cons] at h
   split at h
   ·cases h;decide
   ·split at h
    ·split at h
     ·cases h;decide
     ·cases h
    ·split at h
     ·split at h
      ·cases h;decide
      ·cases r with
       | nil=>cases h;decide
       | cons d r =>
        simp only at h
        split at h
        ·cases h;decide
        ·split at h
         ·cases h;decide
         ·cases hx:oneS (d::r) with
          | none=>rw [hx] at h;cases h;decide
          | some q =>
           obtain ⟨y,j⟩:=q
           rw [hx] at h
           simp only at h
           split at h
           ·cases h;decide
           ·exact ih _ _ _ _ _ h
     ·cases hx:oneS (c::r) with
      | none=>rw [hx] at h;cases h;decide
      | some q =>
       obtain ⟨y,j⟩:=q
       rw [hx] at h
       exact ih _ _ _ _ _ h
theorem tokOf_err {kd:Int} {o:Res} {e:Int} {d:Nat} (h:tokOf kd o=.error (e,d)):o=.error (e,d):=by
 match o,h with
 | .error q,h=>cases h;rfl
theorem tok_code {r:List Int} {e:Int} {d:Nat} (h:tokK r=.error (e,d)):e≠0:=by
 cases r with
 | nil=>cases h;decide
 | cons c r =>
  rw [tokK] at h
  split at h
  ·cases h
  ·split at h
   ·cases h
   ·split at h
    ·split at h
     ·cases h;decide
     ·cases h
    ·split at h
     ·have:=tokOf_err h
      unfold wordK at this
      generalize (if (c::r).tail.head?=some 37 then 1 else runK lowerK (c::r).tail)=g at this
      dsimp only at this
      by_cases h7:(c::r).tail.take g∈wordsL
      ·rw [if_pos h7] at this;cases this
      ·rw [if_neg h7] at this;cases this;decide
     ·split at h
      ·exact text_code _ _ _ _ (Nat.le_refl _) (tokOf_err h)
      ·split at h
       ·exact cls_code _ _ _ _ _ _ (tokOf_err h)
       ·split at h
        ·exact act_code _ _ _ _ (tokOf_err h)
        ·split at h
         ·cases h
         ·cases h;decide
theorem lexS_code:∀ (f k:Nat) (r:List Int) {e:Int} {d:Nat},lexS f k r=.error (e,d)→e≠0
 | 0,k,r,e,d,h=>by cases h
 | f+1,k,[],e,d,h=>by cases h
 | f+1,k,c::r,e,d,h=>by
  rw [lexS_cons] at h
  cases hx:tokK (c::r) with
  | error q =>
   rw [hx] at h
   obtain ⟨e',d'⟩:=q
   have:e'=e:=by cases h;rfl
   subst this
   exact tok_code hx
  | ok q =>
   obtain ⟨kd,t,m,ok⟩:=q
   rw [hx] at h
   simp only at h
   cases hy:lexS f (k+m) ((c::r).drop m) with
   | error q =>
    rw [hy] at h
    obtain ⟨e',d'⟩:=q
    have:e'=e:=by cases h;rfl
    subst this
    exact lexS_code f _ _ hy
   | ok l=>rw [hy] at h;cases h
def Sorted (k n:Nat):List Mk→Prop
 | []=>True
 | q::l=>1≤q.1∧q.1≤9∧k≤q.2.2∧q.2.2<n∧Sorted (q.2.2+1) n l
theorem Sorted.le:∀ {l:List Mk} {k j n:Nat},j≤k→Sorted k n l→Sorted j n l
 | [],_,_,_,_,_=>trivial
 | _::_,_,_,_,h,⟨h1,h2,h3,h4,h5⟩=>⟨h1,h2,by omega,h4,h5⟩
end Go.Am.D.L
