/-
  A part of the proof of a law: see the text that states it.
-/
import Derived.Test.YtfnnapgpcndcjaaGreatDoorTF
import Derived.Test.YtfnnapgpcndcjaaGreatDoorVc2
import Derived.Test.YtfnnapgpcndcjaaGreatDoorVc9
import Derived.Test.YtfnnapgpcndcjaaGreatDoorVcA
import Derived.Test.YtfnnapgpcndcjaaGreatDoorVcB
import Derived.Test.YtfnnapgpcndcjaaGreatDoorVcC
set_option linter.all false
namespace Go.Am.Z.T
open Go
set_option maxRecDepth 100000
abbrev tTok:Ty:=.pair (.int .i64) qt1
abbrev tNd:Ty:=.pair (.int .i64) (.pair (.int .i64) (.pair tTok (.pair qt7 (.pair .bool (.pair .bool .unit)))))
abbrev tTh:Ty:=.pair tNd (.pair (.int .i64) .unit)
abbrev tAr:Ty:=.pair .ref (.pair (.sref tTh) (.pair (.int .i64) .unit))
abbrev tTr:Ty:=.pair .ref .unit
abbrev Tok:=Int×Int×Int×Unit
abbrev Nd:=Int×Int×Tok×List Int×Bool×Bool×Unit
abbrev Th:=Nd×Int×Unit
abbrev nd0:Nd:=((0:Int),((0:Int),(((0:Int),((0:Int),((0:Int),()))),(([]:List Int),(false,(false,()))))))
abbrev th0:Th:=(nd0,((0:Int),()))
abbrev oM (k:Key) (a b c:Int):Key×Ob:=(k,⟨⟨tTok,(a,(b,(c,())))⟩,[]⟩)
abbrev oA (k km kl:Key) (g n:Nat) (c:Int):Key×Ob:=(k,⟨⟨tAr,((some km:Option Key),((some (kl,(g,(0,n))):Option (Key×Nat×Nat×Nat)),(c,())))⟩,[]⟩)
abbrev oL (k:Key) (g:Nat) (l:List Th):Key×Ob:=(k,⟨⟨.arr (Nat.succ g) l.length tTh,l⟩,[]⟩)
abbrev oT (k ka:Key):Key×Ob:=(k,⟨⟨tTr,((some ka:Option Key),())⟩,[]⟩)
abbrev hM (a b c:Int):Heap:=[oM (0,0) a b c]
abbrev hA (g:Nat) (l z:List Th) (cc a b c:Int):Heap:=[oA (0,0) (0,1) (0,2) g l.length cc,oM (0,1) a b c,oL (0,2) g (l++z)]
abbrev oLn (k:Key) (g n:Nat) (l:List Th):Key×Ob:=(k,⟨⟨.arr (Nat.succ g) n tTh,l⟩,[]⟩)
theorem hA_eq {g n n':Nat} {l z m:List Th} {cc a b c:Int} (h:n=l.length) (hm:m=l++z) (h':n'=(l++z).length):[oA (0,0) (0,1) (0,2) g n cc,oM (0,1) a b c,oLn (0,2) g n' m]=hA g l z cc a b c:=by subst h;subst hm;subst h';rfl
abbrev iv (n:Int):AV:=.tv [] (.int .i64) n
abbrev bv (b:Bool):AV:=.tv [] .bool b
def bigM:Int:=1099511627776
theorem getD_appL {l z:List Th} (d:Th) {i:Nat} (h:i<l.length):(l++z).getD i d=l.getD i d:=by
 simp only [List.getD_eq_getElem?_getD,List.getElem?_append_left h]
theorem set_appL {l z:List Th} {x:Th} {i:Nat} (h:i<l.length):(l++z).set i x=l.set i x++z:=List.set_append_left _ _ h
def heldK (n:Int):Int:=max 0 (min n 1099511627776)
theorem held_ev (n:Int):E 40 [iv n] [] (iv (heldK n)) []:=ev_of (vc40 n _ ⟨rfl,rfl⟩)
theorem mnew_ev (n:Int):E 15 [iv n] [] (.op (1,0) []) [oM (1,0) (heldK n) 0 0]:=ev_of (vc15 n _ ⟨_,⟨held_ev n⟩,rfl,rfl⟩)
theorem left_ev (a b c:Int) (hb:0≤b) (hab:b≤a) (ha:a≤bigM):E 78 [.op (0,0) []] (hM a b c) (iv (a-b)) (hM a b c):=by
 unfold bigM at ha
 exact ev_of (vc78 a b c _ ⟨⟨by omega⟩,rfl,rfl⟩)
def takeR (a b n:Int):Int:=if n<0 then 1 else if a-b<n then 5 else 0
def takeB (a b n:Int):Int:=if takeR a b n=0 then b+n else b
def takeC (a b c n:Int):Int:=if takeR a b n=0 then max c (b+n) else c
theorem take_ev (a b c n:Int) (hb:0≤b) (hab:b≤a) (ha:a≤bigM):E 50 [.op (0,0) [],iv n] (hM a b c) (iv (takeR a b n)) (hM a (takeB a b n) (takeC a b c n)):=by
 have ha':=ha
 unfold bigM at ha'
 refine ev_of (vc50 n a b c _ ⟨fun h=>?_,fun h=>?_⟩)
 ·(simp only [dq1,dq2,dq3,dq4] at h)
  have e:takeR a b n=1:=by unfold takeR;rw [if_pos h]
  simp [takeB,takeC,e]
 ·(simp only [dq1,dq2,dq3,dq4] at h)
  refine ⟨_,_,_,_,⟨left_ev a b c hb hab ha⟩,fun h2=>?_,fun h2=>⟨⟨by (simp only [dq1,dq2,dq3,dq4] at h2);omega⟩,?_⟩⟩
  ·(simp only [dq1,dq2,dq3,dq4] at h2)
   have e:takeR a b n=5:=by unfold takeR;rw [if_neg h,if_pos h2]
   simp [takeB,takeC,e]
  ·(simp only [dq1,dq2,dq3,dq4] at h2)
   have e:takeR a b n=0:=by unfold takeR;rw [if_neg h,if_neg h2]
   simp [takeB,takeC,e]
def inR (l:List Th) (i:Int):Bool:=decide (0≤i)&&decide (i<l.length)
def atN (l:List Th) (i:Int):Nd:=if inR l i=true then (l.getD i.toNat th0).1 else nd0
theorem anew_ev (a b c:Int):E 65 [.op (0,0) []] (hM a b c) (.op (1,0) []) [oA (1,0) (0,0) (1,1) 0 0 0,oL (1,1) 0 [],oM (0,0) a b c]:=ev_of (vc65 a b c _ ⟨rfl,rfl⟩)
theorem is_ev (g:Nat) (l z:List Th) (cc a b c i:Int):E 76 [.op (0,0) [],iv i] (hA g l z cc a b c) (bv (inR l i)) (hA g l z cc a b c):=by
 refine ev_of (vc76 i g (l++z) l.length cc a b c _ ⟨fun h=>⟨?_,rfl⟩,fun h=>⟨?_,rfl⟩⟩)
 ·(simp only [dq1,dq2,dq3,dq4] at h);simp [inR,h]
 ·(simp only [dq1,dq2,dq3,dq4] at h);have:¬ 0≤i:=by omega
  simp [inR,this]
theorem at_ev (g:Nat) (l z:List Th) (cc a b c i:Int):E 47 [.op (0,0) [],iv i] (hA g l z cc a b c) (.tup [.tv [] tNd (atN l i),bv (inR l i)]) (hA g l z cc a b c):=by
 refine ev_of (vc47 i g (l++z) l.length cc a b c _ ?_)
 ((repeat apply Exists.intro);refine And.intro (Need.mk (is_ev g l z cc a b c i)) ?_)
 refine ⟨fun h=>?_,fun h=>?_⟩
 ·have e:inR l i=false:=by simpa using h
  unfold atN;rw [e];exact ⟨rfl,rfl⟩
 ·have e:inR l i=true:=by simpa using h
  have e2:=e
  simp only [inR,Bool.and_eq_true,decide_eq_true_eq] at e2
  refine ⟨⟨by omega⟩,⟨rfl⟩,⟨by simp;omega⟩,⟨rfl⟩,⟨by simp;omega⟩,?_⟩
  unfold atN;rw [e,if_pos rfl,Nat.zero_add,getD_appL _ (by omega)];exact ⟨rfl,rfl⟩
def setN (l:List Th) (i:Int) (x:Nd):List Th:=l.set i.toNat (x,(l.getD i.toNat th0).2)
theorem set_ev (g:Nat) (l z:List Th) (cc a b c i:Int) (x:Nd) (hi:inR l i=true):E 70 [.op (0,0) [],iv i,.tv [] tNd x] (hA g l z cc a b c) (bv true) (hA g (setN l i x) z cc a b c):=by
 obtain ⟨x0,x1,⟨x2,x3,x4,_⟩,x5,x6,x7,_⟩:=x
 refine ev_of (vc70 i x0 x1 x2 x3 x4 x5 x6 x7 g (l++z) l.length cc a b c _ ?_)
 ((repeat apply Exists.intro);refine And.intro (Need.mk (is_ev g l z cc a b c i)) ?_)
 refine ⟨fun h=>?_,fun h=>?_⟩
 ·rw [hi] at h;simp at h
 ·simp only [inR,Bool.and_eq_true,decide_eq_true_eq] at hi
  refine ⟨⟨by omega⟩,⟨rfl⟩,⟨by simp;omega⟩,⟨rfl⟩,⟨by simp;omega⟩,?_⟩
  unfold setN
  rw [Nat.zero_add,getD_appL _ (by omega),set_appL (by omega)]
  exact ⟨rfl,hA_eq (by simp) rfl (by simp)⟩
theorem len_ev (g:Nat) (l z:List Th) (cc a b c:Int):E 38 [.op (0,0) []] (hA g l z cc a b c) (iv l.length) (hA g l z cc a b c):=ev_of (vc38 g (l++z) l.length cc a b c _ ⟨rfl,rfl⟩)
theorem put_no (g:Nat) (l z:List Th) (cc a b c n:Int) (x:Nd) (hb:0≤b) (hab:b≤a) (ha:a≤bigM) (hn:1≤n) (ht:a-b<n):E 66 [.op (0,0) [],.tv [] tNd x,iv n] (hA g l z cc a b c) (.tup [iv 0,iv 5]) (hA g l z cc a b c):=by
 obtain ⟨x0,x1,⟨x2,x3,x4,_⟩,x5,x6,x7,_⟩:=x
 have e:takeR a b n=5:=by unfold takeR;rw [if_neg (by omega),if_pos ht]
 refine ev_of (vc66 x0 x1 x2 x3 x4 x5 x6 x7 n g (l++z) l.length cc a b c _ ⟨fun h=>by (simp only [dq1,dq2,dq3,dq4] at h);omega,fun _=>?_⟩)
 ((repeat apply Exists.intro);refine And.intro (Need.mk (take_ev a b c n hb hab ha)) ?_)
 simp [e,takeB,takeC]
theorem put_ok (g:Nat) (l z:List Th) (cc a b c n:Int) (x:Nd) (hb:0≤b) (hab:b≤a) (ha:a≤bigM) (hn:1≤n) (ht:n≤a-b) (hl:(l++z).length≤1000) (hc0:0≤cc) (hc1:cc≤bigM) :
  E 66 [.op (0,0) [],.tv [] tNd x,iv n] (hA g l z cc a b c) (.tup [iv l.length,iv 0]) (hA (g+1) (l++[(x,(n,()))]) [] (cc+n) a (b+n) (max c (b+n))):=by
 obtain ⟨x0,x1,⟨x2,x3,x4,_⟩,x5,x6,x7,_⟩:=x
 have e:takeR a b n=0:=by unfold takeR;rw [if_neg (by omega),if_neg (by omega)]
 unfold bigM at hc1
 refine ev_of (vc66 x0 x1 x2 x3 x4 x5 x6 x7 n g (l++z) l.length cc a b c _ ⟨fun h=>by (simp only [dq1,dq2,dq3,dq4] at h);omega,fun _=>?_⟩)
 ((repeat apply Exists.intro);refine And.intro (Need.mk (take_ev a b c n hb hab ha)) ?_)
 unfold bigM at ha
 refine ⟨fun h=>by simp [e] at h,fun _=>⟨⟨by simp only [List.length_append] at hl;refine ⟨rfl,?_,?_,?_⟩ <;> simp only [List.length_append,List.length_cons,List.length_nil,bigN] <;> omega⟩,⟨by omega⟩,⟨by simp only [List.length_append] at hl;simp only [List.length_cons,List.length_nil];omega⟩,?_⟩⟩
 simp only [takeB,takeC,e,if_true,List.take_left]
 refine ⟨?_,hA_eq (by simp) (by simp) (by simp)⟩
 have e1:(((l.length+[(((x0,(x1,((x2,(x3,(x4,()))),(x5,(x6,(x7,())))))):Nd),(n,()))].length:Nat):Int)-1)=(l.length:Int):=by simp
 rw [e1]
def cellS (l:List Th):Int:=(l.map fun x:Th=>x.2.1).sum
theorem cellS_nn {l:List Th} (h:∀ x∈l,0≤x.2.1):0≤cellS l:=by
 induction l with
 | nil=>simp [cellS]
 | cons a l ih =>
  have:=ih fun x hx=>h x (List.mem_cons_of_mem _ hx)
  have:=h a (List.mem_cons_self ..)
  simp only [cellS,List.map_cons,List.sum_cons] at *
  omega
end Go.Am.Z.T
