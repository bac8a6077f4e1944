/-
  A part of the proof of a law: see the text that states it.
-/
import Derived.Test.YtggaihkjnomflaaGreatDoorZC
import Derived.Test.YtggaihkjnomflaaGreatDoorAm4
import Derived.Test.YtggaihkjnomflaaGreatDoorVcN
set_option linter.all false
namespace Go.Am.N
open Go Go.Am.Pr Go.Am.N.L
set_option maxRecDepth 100000
def eCZ {α:Type} (f:α→Nat) (l:List α):Nat:=(l.map f).sum
theorem cPZ {α:Type} (f:α→Nat) (a:α) (l:List α):eCZ f (a::l)=f a+eCZ f l:=by simp [eCZ]
theorem lkZ {α:Type} (f:α→Nat) (a b:List α):eCZ f (a++b)=eCZ f a+eCZ f b:=by simp [eCZ]
theorem o0Z {α:Type} (f:α→Nat) (l:List α) (k:Nat):eCZ f (l.take k)≤eCZ f l:=by
 have:eCZ f l=eCZ f (l.take k)+eCZ f (l.drop k):=by rw [← lkZ,List.take_append_drop]
 omega
theorem lxZ {α:Type} (f:α→Nat) {l:List α} {x:α} (h:x∈l):f x≤eCZ f l:=by
 obtain ⟨a,b,rfl⟩:=List.append_of_mem h
 rw [lkZ,cPZ];omega
theorem gaZ {α:Type} (f g:α→Nat):∀ (l:List α),(∀ x∈l,f x≤g x)→eCZ f l≤eCZ g l
 | [],_=>Nat.le_refl _
 | a::l,h=>by
  have h1:=h a (List.mem_cons_self ..)
  have h2:=gaZ f g l fun x hx=>h x (List.mem_cons_of_mem _ hx)
  rw [cPZ,cPZ];omega
theorem dWZ {α:Type} (f:α→Nat):∀ (l:List α),(∀ x∈l,1≤f x)→l.length≤eCZ f l
 | [],_=>Nat.zero_le _
 | a::l,h=>by
  have h1:=h a (List.mem_cons_self ..)
  have h2:=dWZ f l fun x hx=>h x (List.mem_cons_of_mem _ hx)
  rw [cPZ,List.length_cons];omega
abbrev nmW (l:List qT0):Nat:=eCZ (fun x=>x.length+1) l
theorem uHZ (t:Tk):wT tTk t=t.1.length+1+((t.2.1.1.length+1+(t.2.1.2.1.length+1+(0+0)))+0):=rfl
theorem uDZ (p:Pat):wT knZ p=p.1.length+1+(p.2.1.length+1+(0+0)):=rfl
theorem uuZ (x:Lv):wT tLv x=0+(nmW x.2.1+1+0):=rfl
theorem uLZ (r:Rl):wT tRl r=r.1.length+1+(nmW r.2.1+1+(r.2.2.1.length+1+(r.2.2.2.1.length+1+0))):=rfl
theorem vCZ (g:Gr):wT tGr g=eCZ (wT tTk) g.1+1+(eCZ (wT knZ) g.2.1+1+(eCZ (wT tLv) g.2.2.1+1+(g.2.2.2.1.length+1+(eCZ (wT tRl) g.2.2.2.2.1+1+0)))):=rfl
def fTk (t:Tk):Nat:=t.1.length+t.2.1.1.length+t.2.1.2.1.length
def fSk (p:Pat):Nat:=p.1.length+p.2.1.length
def fLv (x:Lv):Nat:=nmW x.2.1
def fRl (r:Rl):Nat:=r.1.length+r.2.2.1.length+r.2.2.2.1.length+nmW r.2.1
structure Bd (g:Gr) (W:Nat):Prop where
 tk:g.1.length≤W
 tks:eCZ fTk g.1≤W
 sk:g.2.1.length≤W
 sks:eCZ fSk g.2.1≤W
 lv:g.2.2.1.length≤W
 lvs:eCZ fLv g.2.2.1≤W
 rl:g.2.2.2.2.1.length≤W
 rls:eCZ fRl g.2.2.2.2.1≤W
theorem Bd.of {g:Gr} {W:Nat} (h:wT tGr g≤W):Bd g W:=by
 rw [vCZ] at h
 have a1:=dWZ (wT tTk) g.1 fun t _=>by rw [uHZ];omega
 have a2:=dWZ (wT knZ) g.2.1 fun t _=>by rw [uDZ];omega
 have a3:=dWZ (wT tLv) g.2.2.1 fun t _=>by rw [uuZ];omega
 have a4:=dWZ (wT tRl) g.2.2.2.2.1 fun t _=>by rw [uLZ];omega
 have b1:=gaZ fTk (wT tTk) g.1 fun t _=>by rw [uHZ,fTk];omega
 have b2:=gaZ fSk (wT knZ) g.2.1 fun t _=>by rw [uDZ,fSk];omega
 have b3:=gaZ fLv (wT tLv) g.2.2.1 fun t _=>by rw [uuZ,fLv];omega
 have b4:=gaZ fRl (wT tRl) g.2.2.2.2.1 fun t _=>by rw [uLZ,fRl];omega
 exact ⟨by omega,by omega,by omega,by omega,by omega,by omega,by omega,by omega⟩
end Go.Am.N
