/-
  A part of the proof of a law: see the text that states it.
-/
import Derived.Test.YtfnnapgpcndcjaaGreatDoorVD
import Derived.Test.YtfnnapgpcndcjaaGreatDoorAm4
import Derived.KernelRfl
import Derived.Test.YtfnnapgpcndcjaaGreatDoorVc1
import Derived.Test.YtfnnapgpcndcjaaGreatDoorVc5
set_option linter.all false
namespace Go.Am.Z.V
open Go
set_option maxRecDepth 100000
def eqXL (f:XT→XT→Bool):List XT→List XT→Bool
 | [],[]=>true
 | a::l,b::m=>f a b&&eqXL f l m
 | _,_=>false
def eqX:Nat→XT→XT→Bool
 | 0,_,_=>false
 | d+1,.mk k n l,.mk k' n' l'=>decide (k=k')&&decide (n=n')&&eqXL (eqX d) l l'
theorem eqXL_ok {f:XT→XT→Bool} (hf:∀ a b,f a b=true→a=b):∀ {l m:List XT},eqXL f l m=true→l=m
 | [],[],_=>rfl
 | a::l,b::m,h=>by
  simp only [eqXL,Bool.and_eq_true] at h
  rw [hf a b h.1,eqXL_ok hf h.2]
 | [],_::_,h=>by simp [eqXL] at h
 | _::_,[],h=>by simp [eqXL] at h
theorem eqX_ok:∀ {d:Nat} {a b:XT},eqX d a b=true→a=b
 | 0,_,_,h=>by simp [eqX] at h
 | d+1,.mk k n l,.mk k' n' l',h=>by
  simp only [eqX,Bool.and_eq_true,decide_eq_true_eq] at h
  obtain ⟨⟨rfl,rfl⟩,h3⟩:=h
  rw [eqXL_ok (fun a b=>eqX_ok (d:=d)) h3]
def isRd (x:XT):Option (AV×Heap)→Bool
 | some (.tup [.tv [] .expr y,.tv [] (.int .i64) e,.tv [] (.int .i64) p],[])=>eqX 9 y x&&decide ((e:Int)=0)&&decide ((p:Int)=0)
 | _=>false
theorem isRd_ok {x:XT} {q:Option (AV×Heap)} (h:isRd x q=true):q=some (.tup [.tv [] .expr x,.tv [] (.int .i64) 0,.tv [] (.int .i64) 0],[]):=by
 unfold isRd at h
 split at h
 ·simp only [Bool.and_eq_true,decide_eq_true_eq] at h
  obtain ⟨⟨h1,h2⟩,h3⟩:=h
  rw [eqX_ok h1,h2,h3]
 ·cases h
def xDiv:XT:=.mk 8 0 [.mk 2 1 [],.mk 2 2 []]
def xAdd:XT:=.mk 5 0 [.mk 3 1 [],.mk 1 1 []]
theorem read1:isRd xDiv (callF PP orc 400 25 [.tv [] .str [36,49,32,47,32,36,50]] [])=true:=by decide +kernel
theorem read2:isRd xAdd (callF PP orc 400 25 [.tv [] .str [64,49,32,43,32,49]] [])=true:=by decide +kernel
theorem ev_call {f:FuncId} {l:List AV} {h h':Heap} {v:AV} {k:Nat} (hc:callF PP orc k f l h=some (v,h')):E f l h v h':=⟨k,fun m hm=>callF_mono k m hm _ _ _ _ hc⟩
theorem r1_ev:E 25 [.tv [] .str [36,49,32,47,32,36,50]] [] (.tup [.tv [] .expr xDiv,.tv [] (.int .i64) 0,.tv [] (.int .i64) 0]) []:=ev_call (isRd_ok read1)
theorem r2_ev:E 25 [.tv [] .str [64,49,32,43,32,49]] [] (.tup [.tv [] .expr xAdd,.tv [] (.int .i64) 0,.tv [] (.int .i64) 0]) []:=ev_call (isRd_ok read2)
theorem vnum_ev (n:Int):E 28 [.tv [] (.int .i64) n] [] (.tv [] tV (1,n,())) []:=ev_of (vc28 n _ ⟨rfl,rfl⟩)
theorem leaf_is (x:List Int) (v:Val) (h:leafK x=v) (hx:x.all (fun c=>decide (0≤c)&&decide (c<256))=true) (hl:x.length≤1000):E 29 [.tv [] .str x] [] (.tv [] tV v) []:=by
 rw [← h];exact leaf_ev x (fun c hc=>by have:=List.all_eq_true.1 hx c hc;simpa using this) hl
theorem run_is (l:List Op2) (vals:List Val) (nodes:List Int) (v:Val) (h:runK l vals nodes=v) (hl:l.length≤1000) (hv:vals.length≤1000):E 27 [.tv [] (.slice tOp) l,.tv [] (.slice tV) vals,.tv [] qt7 nodes] [] (.tv [] tV v) []:=by
 rw [← h];exact run_ev l vals nodes hl hv
theorem awake_ev:E 6 [] [] (.tv [] .bool true) []:=by
 refine ev_of (vc6 _ ?_)
 refine ⟨_,_,_,⟨r1_ev⟩,_,_,_,⟨r2_ev⟩,_,⟨rcomp_ev xDiv (by decide +kernel)⟩,_,_,⟨vnum_ev _⟩,_,_,⟨vnum_ev _⟩,_,_,⟨run_is _ _ _ (3,32,()) (by decide +kernel) (by decide +kernel) (by decide +kernel)⟩,
  _,_,⟨vnum_ev _⟩,_,_,⟨vnum_ev _⟩,_,_,⟨run_is _ _ _ (1,-3,()) (by decide +kernel) (by decide +kernel) (by decide +kernel)⟩,_,⟨rcomp_ev xAdd (by decide +kernel)⟩,_,_,⟨vnum_ev _⟩,_,_,⟨run_is _ _ _ (3,33,()) (by decide +kernel) (by decide +kernel) (by decide +kernel)⟩,
  _,_,⟨leaf_is _ (1,12,()) (by decide +kernel) (by decide +kernel) (by decide +kernel)⟩,_,_,⟨vnum_ev _⟩,fun _=>⟨_,_,⟨leaf_is _ (1,2,()) (by decide +kernel) (by decide +kernel) (by decide +kernel)⟩,_,_,⟨vnum_ev _⟩,
   fun _=>⟨_,_,⟨leaf_is _ (1,-1,()) (by decide +kernel) (by decide +kernel) (by decide +kernel)⟩,_,_,⟨vnum_ev _⟩,fun _=>⟨fun _=>⟨_,_,⟨vnum_ev _⟩,fun _=>⟨rfl,rfl⟩,fun h=>by simp at h⟩,fun h=>by simp at h⟩,fun h=>by simp at h⟩,fun h=>by simp at h⟩,fun h=>by simp at h⟩
end Go.Am.Z.V
