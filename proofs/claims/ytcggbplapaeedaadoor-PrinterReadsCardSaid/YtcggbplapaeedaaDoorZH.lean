/-
  A part of the proof of a law: see the text that states it.
-/
import Derived.Test.YtcggbplapaeedaaDoorZD
import Derived.Test.YtcggbplapaeedaaDoorVcT
import Derived.Test.YtcggbplapaeedaaDoorAm4
set_option linter.all false
namespace Go.Am.R
open Go Go.Am.Pr Go.Am.R.L
set_option maxRecDepth 100000
end Go.Am.R
namespace Go.Am.R
open Go Go.Am.Pr Go.Am.R.L
set_option maxRecDepth 100000
def sumM {α:Type} (f:α→Nat) (l:List α):Nat:=(l.map f).sum
theorem sumM_cons {α:Type} (f:α→Nat) (a:α) (l:List α):sumM f (a::l)=f a+sumM f l:=by simp [sumM]
theorem sumM_le {α:Type} (f g:α→Nat):∀ (l:List α),(∀ x∈l,f x≤g x)→sumM f l≤sumM g l
 | [],_=>Nat.le_refl _
 | a::l,h=>by
  have h1:=h a (List.mem_cons_self ..)
  have h2:=sumM_le f g l fun x hx=>h x (List.mem_cons_of_mem _ hx)
  rw [sumM_cons,sumM_cons];omega
theorem sumM_len {α:Type} (f:α→Nat):∀ (l:List α),(∀ x∈l,1≤f x)→l.length≤sumM f l
 | [],_=>Nat.zero_le _
 | a::l,h=>by
  have h1:=h a (List.mem_cons_self ..)
  have h2:=sumM_len f l fun x hx=>h x (List.mem_cons_of_mem _ hx)
  rw [sumM_cons,List.length_cons];omega
abbrev nmW (l:List qT0):Nat:=sumM (fun x=>x.length+1) l
theorem w_tk (t:Tk):wT tTk t=t.1.length+1+((t.2.1.1.length+1+(t.2.1.2.1.length+1+(0+0)))+0):=rfl
theorem w_sk (p:Pat):wT tPat p=p.1.length+1+(p.2.1.length+1+(0+0)):=rfl
theorem w_lv (x:Lv):wT tLv x=0+(nmW x.2.1+1+0):=rfl
theorem w_rl (r:Rl):wT tRl r=r.1.length+1+(nmW r.2.1+1+(r.2.2.1.length+1+(r.2.2.2.1.length+1+0))):=rfl
theorem w_gr (g:Gr):wT tGr g=sumM (wT tTk) g.1+1+(sumM (wT tPat) g.2.1+1+(sumM (wT tLv) g.2.2.1+1+(g.2.2.2.1.length+1+(sumM (wT tRl) g.2.2.2.2.1+1+0)))):=rfl
def fTk (t:Tk):Nat:=t.1.length+t.2.1.1.length+t.2.1.2.1.length
def fSk (p:Pat):Nat:=p.1.length+p.2.1.length
def fLv (x:Lv):Nat:=nmW x.2.1
def fRl (r:Rl):Nat:=r.1.length+r.2.2.1.length+r.2.2.2.1.length+nmW r.2.1
structure Bd (g:Gr) (W:Nat):Prop where
 tk:g.1.length≤W
 tks:sumM fTk g.1≤W
 sk:g.2.1.length≤W
 sks:sumM fSk g.2.1≤W
 lv:g.2.2.1.length≤W
 lvs:sumM fLv g.2.2.1≤W
 rl:g.2.2.2.2.1.length≤W
 rls:sumM fRl g.2.2.2.2.1≤W
theorem Bd.of {g:Gr} {W:Nat} (h:wT tGr g≤W):Bd g W:=by
 rw [w_gr] at h
 have a1:=sumM_len (wT tTk) g.1 fun t _=>by rw [w_tk];omega
 have a2:=sumM_len (wT tPat) g.2.1 fun t _=>by rw [w_sk];omega
 have a3:=sumM_len (wT tLv) g.2.2.1 fun t _=>by rw [w_lv];omega
 have a4:=sumM_len (wT tRl) g.2.2.2.2.1 fun t _=>by rw [w_rl];omega
 have b1:=sumM_le fTk (wT tTk) g.1 fun t _=>by rw [w_tk,fTk];omega
 have b2:=sumM_le fSk (wT tPat) g.2.1 fun t _=>by rw [w_sk,fSk];omega
 have b3:=sumM_le fLv (wT tLv) g.2.2.1 fun t _=>by rw [w_lv,fLv];omega
 have b4:=sumM_le fRl (wT tRl) g.2.2.2.2.1 fun t _=>by rw [w_rl,fRl];omega
 exact ⟨by omega,by omega,by omega,by omega,by omega,by omega,by omega,by omega⟩
end Go.Am.R
namespace Go.Am.R
open Go Go.Am.Pr Go.Am.R.L
set_option maxRecDepth 100000
def spW (l:List qT0):List Int:=l.flatMap fun y=>[32]++y
theorem spW_cons (a:List Int) (l:List qT0):spW (a::l)=[32]++a++spW l:=rfl
theorem spW_app (a b:List qT0):spW (a++b)=spW a++spW b:=by simp [spW]
theorem join_sp:∀ (l:List qT0) (a:List Int),joinL [32] (a::l)=a++spW l
 | [],a=>by rw [joinL_one];simp [spW]
 | b::l,a=>by rw [joinL_cons,join_sp l b,spW_cons];simp
theorem ruleT_eq (r:Rl):ruleT r=r.1++[32,58]++spW r.2.1++(if r.2.2.1=[] then [] else [32,37,112,114,101,99,32]++r.2.2.1)++(if r.2.2.2.1=[] then [] else [32,123]++r.2.2.2.1++[125])++[32,59]:=by
 unfold ruleT partsT
 have e:∀ P A:List qT0,([r.1,[58]]++r.2.1++P++(A++[[59]]))=r.1::([58]::r.2.1++P++A++[[59]]):=by intro P A;simp
 rw [e,join_sp,spW_app,spW_app,spW_app,spW_cons]
 have e2:spW [[59]]=[32,59]:=rfl
 rw [e2]
 split <;> split <;> simp [spW,precW]
abbrev ByN (l:List qT0):Prop:=∀ s∈l,∀ c∈s,0≤c∧c<256
structure ByG (g:Gr):Prop where
 tk:∀ t∈g.1,∀ c∈t.1,0≤c∧c<256
 lv:∀ x∈g.2.2.1,ByN x.2.1
 st:∀ c∈g.2.2.2.1,0≤c∧c<256
 rl:∀ r∈g.2.2.2.2.1,(∀ c∈r.1,0≤c∧c<256)∧ByN r.2.1∧(∀ c∈r.2.2.1,0≤c∧c<256)∧ActB r
end Go.Am.R
