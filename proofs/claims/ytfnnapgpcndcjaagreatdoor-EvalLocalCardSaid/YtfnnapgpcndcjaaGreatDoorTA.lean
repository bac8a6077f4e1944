/-
  A part of the proof of a law: see the text that states it.
-/
import Derived.Test.YtfnnapgpcndcjaaGreatDoorAm4
import Derived.Test.YtfnnapgpcndcjaaGreatDoorVcB
set_option linter.all false
namespace Go.Am.Z.T
open Go
set_option maxRecDepth 100000
theorem ev_call {f:FuncId} {l:List AV} {h h':Heap} {v:AV} {k:Nat} (hc:callF PP orc k f l h=some (v,h')):E f l h v h':=⟨k,fun m hm=>callF_mono k m hm _ _ _ _ hc⟩
def isB (b:Bool):Option (AV×Heap)→Bool
 | some (.tv [] .bool x,[])=>(x:Bool) == b
 | _=>false
theorem isB_ok {b:Bool} {q:Option (AV×Heap)} (h:isB b q=true):q=some (.tv [] .bool b,[]):=by
 unfold isB at h
 split at h
 ·simp only [beq_iff_eq] at h;rw [h]
 ·cases h
def plK:List qT3→List Int→Nat→Int
 | [],_,_=>-1
 | x::l,s,i=>if x=s then (i:Int) else plK l s (i+1)
def placeK (l:List qT3) (s:List Int):Int:=plK l s 0
theorem plK_nn {s:List Int}:∀ {l:List qT3} {i:Nat},0≤plK l s i↔s∈l
 | [],i=>by simp [plK]
 | x::l,i=>by
  unfold plK
  split
  ·rename_i h;subst h;simp
  ·rename_i h;rw [plK_nn];simp [Ne.symm h]
theorem plK_lt {s:List Int}:∀ {l:List qT3} {i:Nat},plK l s i<i+l.length
 | [],i=>by simp [plK];omega
 | x::l,i=>by
  unfold plK
  split
  ·simp only [List.length_cons];omega
  ·have:=@plK_lt s l (i+1);simp only [List.length_cons];omega
theorem placeK_nn {l:List qT3} {s:List Int}:0≤placeK l s↔s∈l:=plK_nn
theorem placeK_lt {l:List qT3} {s:List Int}:placeK l s<l.length:=by have:=@plK_lt s l 0;unfold placeK;omega
theorem place_ev (l:List qT3) (s:List Int) (hl:l.length≤1000):E 62 [.tv [] (.slice .str) l,.tv [] .str s] [] (.tv [] (.int .i64) (placeK l s)) []:=by
 refine ev_of (vc62 l s _ ?_)
 refine ⟨fun i=>∃ k:Nat,i=k∧k≤l.length∧plK (l.drop k) s k=placeK l s,fun i=>(l.length-i).toNat,⟨0,rfl,by omega,rfl⟩,?_⟩
 rintro _ ⟨k,rfl,hk,hv⟩
 refine ⟨fun h=>?_,fun h=>?_⟩
 ·(simp only [dq1,dq2,dq3,dq4] at h)
  have hk':k<l.length:=by omega
  rw [drop_cons [] hk',plK] at hv
  simp only [Int.toNat_natCast]
  refine ⟨⟨by omega⟩,fun h2=>?_,fun h2=>⟨⟨by omega⟩,⟨k+1,by omega,by omega,?_⟩,⟨by ((try dsimp only);omega)⟩⟩⟩
  ·(simp only [dq1,dq2,dq3,dq4] at h2)
   rw [if_pos h2] at hv
   exact ⟨by rw [← hv],tr0⟩
  ·(simp only [dq1,dq2,dq3,dq4] at h2)
   rw [if_neg h2] at hv
   exact hv
 ·(simp only [dq1,dq2,dq3,dq4] at h)
  have:k=l.length:=by omega
  subst this
  rw [List.drop_length] at hv
  exact ⟨by rw [← hv];rfl,tr0⟩
abbrev tLv:Ty:=.pair (.int .i64) (.pair (.slice .str) .unit)
abbrev Lv:=Int×List qT3×Unit
abbrev tPat:Ty:=.pair .str (.pair .str (.pair .bool .unit))
abbrev tTk:Ty:=.pair .str (.pair tPat .unit)
abbrev Tk:=List Int×(List Int×List Int×Bool×Unit)×Unit
abbrev tRl:Ty:=.pair .str (.pair (.slice .str) (.pair .str (.pair .str .unit)))
abbrev Rl:=List Int×List qT3×List Int×List Int×Unit
abbrev tGr:Ty:=.pair (.slice tTk) (.pair (.slice tPat) (.pair (.sref tLv) (.pair .str (.pair (.slice tRl) .unit))))
abbrev hLv (g:Nat) (l:List Lv):Heap:=[((0,0),⟨⟨.arr (Nat.succ g) l.length tLv,l⟩,[]⟩)]
abbrev gr (t:List Tk) (sk:List (List Int×List Int×Bool×Unit)) (g n:Nat) (st:List Int) (r:List Rl):AV:=.tv [] tGr (t,(sk,(some ((0,0),g,0,n),(st,(r,())))))
def levK:List Lv→List Int→Nat→Int
 | [],_,_=>0
 | x::l,s,i=>if s∈x.2.1 then (i+1:Nat) else levK l s (i+1)
theorem level_ev (t:List Tk) (sk:List (List Int×List Int×Bool×Unit)) (g:Nat) (l:List Lv) (st:List Int) (r:List Rl) (s:List Int) (hl:l.length≤1000) (hn:∀ x∈l,x.2.1.length≤1000) :
  E 63 [gr t sk g l.length st r,.tv [] .str s] (hLv g l) (.tv [] (.int .i64) (levK l s 0)) (hLv g l):=by
 refine ev_of (vc63 t sk g l st r s _ ?_)
 refine ⟨fun i γ z=>∃ k:Nat,i=k∧k≤List.length l∧γ=(g:Int)∧z=l∧levK (l.drop k) s k=levK l s 0,fun i _ _=>((l.length:Int)-i).toNat,⟨rfl⟩,⟨0,rfl,by omega,rfl,rfl,rfl⟩,?_⟩
 rintro _ _ z ⟨k,rfl,hk,rfl,rfl,hv⟩
 refine ⟨fun h=>?_,fun h=>?_⟩
 ·(simp only [dq1,dq2,dq3,dq4] at h)
  have hk':k<List.length z:=by omega
  have hd:=drop_cons ((0:Int),(([]:List qT3),())) hk'
  rw [hd,levK] at hv
  have hm:z.getD k ((0:Int),(([]:List qT3),()))∈z:=getD_mem' _ hk'
  simp only [Int.toNat_natCast,Nat.zero_add]
  refine ⟨⟨by omega⟩,⟨tr0⟩,⟨hk'⟩,⟨tr0⟩,⟨hk'⟩,_,⟨place_ev _ _ (hn _ hm)⟩,fun h2=>⟨⟨by omega⟩,?_⟩,fun h2=>⟨⟨by omega⟩,⟨tr0⟩,⟨k+1,by omega,by omega,tr0,tr0,?_⟩,⟨by ((try dsimp only);omega)⟩⟩⟩
  ·(simp only [dq1,dq2,dq3,dq4] at h2)
   rw [placeK_nn] at h2
   rw [if_pos h2] at hv
   exact ⟨by rw [← hv];simp,tr0⟩
  ·(simp only [dq1,dq2,dq3,dq4] at h2)
   rw [placeK_nn] at h2
   rw [if_neg h2] at hv
   exact hv
 ·(simp only [dq1,dq2,dq3,dq4] at h)
  have:k=List.length z:=by omega
  subst this
  rw [List.drop_length] at hv
  exact ⟨by rw [← hv];rfl,tr0⟩
theorem levK_pos {s:List Int}:∀ {l:List Lv} {i:Nat},(∃ x∈l,s∈x.2.1)→0<levK l s i
 | [],i,h=>by simp at h
 | x::l,i,h=>by
  unfold levK
  split
  ·omega
  ·rename_i hn
   refine levK_pos ?_
   obtain ⟨y,hy,hs⟩:=h
   rcases List.mem_cons.1 hy with rfl | hy
   ·exact absurd hs hn
   ·exact ⟨y,hy,hs⟩
abbrev tPr:Ty:=.pair (.int .i64) (.pair qt7 (.pair (.int .i64) .unit))
abbrev Prd:=Int×List Int×Int×Unit
abbrev tPl:Ty:=.pair (.slice .str) (.pair (.slice .str) (.pair (.slice tPr) (.pair qt7 (.pair qt7 (.pair (.slice .str) .unit)))))
abbrev Pl:=List qT3×List qT3×List Prd×List Int×List Int×List qT3×Unit
def symK (p:Pl) (s:List Int):Int:=if s∈p.1 then placeK p.1 s else if s∈p.2.1 then p.1.length+placeK p.2.1 s else -1
theorem sym_ev (p:Pl) (s:List Int) (h1:p.1.length≤1000) (h2:p.2.1.length≤1000):E 64 [.tv [] tPl p,.tv [] .str s] [] (.tv [] (.int .i64) (symK p s)) []:=by
 obtain ⟨a,b,c,d,e,f,_⟩:=p
 have l1:=@placeK_lt a s
 have l2:=@placeK_lt b s
 refine ev_of (vc64 a b c d e f s _ ⟨_,⟨place_ev a s h1⟩,fun h=>?_,fun h=>⟨_,⟨place_ev b s h2⟩,fun h3=>⟨⟨?_⟩,?_⟩,fun h3=>?_⟩⟩)
 ·(simp only [dq1,dq2,dq3,dq4] at h);rw [placeK_nn] at h
  refine ⟨?_,tr0⟩
  unfold symK;rw [if_pos h]
 ·simp only at h2 h1
  (simp only [dq1,dq2,dq3,dq4] at h3)
  omega
 ·(simp only [dq1,dq2,dq3,dq4] at h);(simp only [dq1,dq2,dq3,dq4] at h3);rw [placeK_nn] at h h3
  refine ⟨?_,tr0⟩
  unfold symK;rw [if_neg h,if_pos h3]
 ·(simp only [dq1,dq2,dq3,dq4] at h);(simp only [dq1,dq2,dq3,dq4] at h3);rw [placeK_nn] at h h3
  refine ⟨?_,tr0⟩
  unfold symK;rw [if_neg h,if_neg h3]
theorem symK_nn {p:Pl} {s:List Int} (h:s∈p.1∨s∈p.2.1):0≤symK p s:=by
 unfold symK
 split
 ·rename_i h1;exact placeK_nn.2 h1
 ·split
  ·rename_i h2;have:=placeK_nn.2 h2;omega
  ·rename_i h1 h2;exact absurd h (by simp [h1,h2])
end Go.Am.Z.T
