/-
  A part of the proof of a law: see the text that states it.
-/
import Derived.Test.YtfnnapgpcndcjaaGreatDoorTG
import Derived.Test.YtfnnapgpcndcjaaGreatDoorVc2
import Derived.Test.YtfnnapgpcndcjaaGreatDoorVc8
import Derived.Test.YtfnnapgpcndcjaaGreatDoorVc9
import Derived.Test.YtfnnapgpcndcjaaGreatDoorVcB
import Derived.Test.YtfnnapgpcndcjaaGreatDoorVcC
set_option linter.all false
namespace Go.Am.Z.T
open Go
set_option maxRecDepth 100000
abbrev lv (l:List Int):AV:=.tv [] qt7 l
abbrev lvO (l:List Int):AV:=.tv [[]] qt7 l
abbrev hT (g:Nat) (l z:List Th) (cc a b c:Int):Heap:=[oT (0,0) (0,1),oA (0,1) (0,2) (0,3) g l.length cc,oM (0,2) a b c,oL (0,3) g (l++z)]
theorem clone_ev (l:List Int) (hl:l.length≤bigN):E 69 [lv l] [] (lvO l) []:=by
 refine ev_call (k:=1) ?_
 have e:orc.prim 69=some (clonePrim (.int .i64)):=rfl
 simp only [callF,e]
 show Option.map _ ((asT qt7 (.tv [] qt7 l)).bind fun l=>if List.length l≤bigN then some (AV.tv [[]] qt7 l) else none)=_
 have e2:asT qt7 (.tv [] qt7 l)=some l:=rfl
 rw [e2]
 simp only [Option.bind_some]
 rw [if_pos hl];rfl
def symN (l:List Th) (i:Int):Int:=if inR l i=true then (atN l i).2.1 else -1
def ruleN (l:List Th) (i:Int):Int:=if inR l i=true then (atN l i).1 else -1
def tokN (l:List Th) (i:Int):Tok:=(atN l i).2.2.1
def kidsN (l:List Th) (i:Int):List Int:=(atN l i).2.2.2.1
def leafN (l:List Th) (i:Int):Bool:=(atN l i).2.2.2.2.1
def belN (l:List Th) (i:Int):Bool:=(atN l i).2.2.2.2.2.1
section
variable (g:Nat) (l z:List Th) (cc a b c i:Int)
theorem rule_tv:E 77 [.op (0,0) [],iv i] (hT g l z cc a b c) (iv (ruleN l i)) (hT g l z cc a b c):=by
 refine ev_of (vc77 i g (l++z) l.length cc a b c _ ?_)
 ((repeat apply Exists.intro);refine And.intro (Need.mk (at_ev g l z cc a b c i)) ?_)
 refine ⟨fun h=>?_,fun h=>?_⟩
 ·have e:inR l i=false:=by simpa using h
  unfold ruleN;rw [e];exact ⟨rfl,rfl⟩
 ·have e:inR l i=true:=by simpa using h
  have e2:ruleN l i=(atN l i).1:=by unfold ruleN;rw [if_pos e]
  rw [e2];exact ⟨rfl,rfl⟩
theorem tok_tv:E 81 [.op (0,0) [],iv i] (hT g l z cc a b c) (.tv [] tTok (tokN l i)) (hT g l z cc a b c):=by
 refine ev_of (vc81 i g (l++z) l.length cc a b c _ ?_)
 ((repeat apply Exists.intro);refine And.intro (Need.mk (at_ev g l z cc a b c i)) ?_)
 exact ⟨rfl,rfl⟩
theorem leaf_tv:E 48 [.op (0,0) [],iv i] (hT g l z cc a b c) (bv (leafN l i)) (hT g l z cc a b c):=by
 refine ev_of (vc48 i g (l++z) l.length cc a b c _ ?_)
 ((repeat apply Exists.intro);refine And.intro (Need.mk (at_ev g l z cc a b c i)) ?_)
 exact ⟨rfl,rfl⟩
theorem kids_tv (hk:(kidsN l i).length≤1000):E 79 [.op (0,0) [],iv i] (hT g l z cc a b c) (lvO (kidsN l i)) (hT g l z cc a b c):=by
 refine ev_of (vc79 i g (l++z) l.length cc a b c _ ?_)
 ((repeat apply Exists.intro);refine And.intro (Need.mk (at_ev g l z cc a b c i)) ?_)
 ((repeat apply Exists.intro);refine And.intro (Need.mk (clone_ev (kidsN l i) (by unfold bigN;omega))) ?_)
 exact ⟨rfl,rfl⟩
theorem len_tv:E 11 [.op (0,0) []] (hT g l z cc a b c) (iv l.length) (hT g l z cc a b c):=by
 refine ev_of (vc11 g (l++z) l.length cc a b c _ ?_)
 ((repeat apply Exists.intro);refine And.intro (Need.mk (len_ev g l z cc a b c)) ?_)
 exact ⟨rfl,rfl⟩
end
theorem tnew_ev (a b c:Int):E 33 [.op (0,0) []] (hM a b c) (.op (1,0) []) [oT (1,0) (1,1),oL (1,2) 0 [],oA (1,1) (0,0) (1,2) 0 0 0,oM (0,0) a b c]:=by
 refine ev_of (vc33 a b c _ ?_)
 ((repeat apply Exists.intro);refine And.intro (Need.mk (anew_ev a b c)) ?_)
 exact ⟨rfl,rfl⟩
abbrev leafT (x:Tok):Th:=(((-1:Int),(x.1,(x,(([]:List Int),(true,(false,())))))),((1:Int),()))
theorem leaf_no (g:Nat) (l z:List Th) (cc a b c:Int) (x:Tok) (hb:0≤b) (hab:b≤a) (ha:a≤bigM) (ht:a-b<1):E 34 [.op (0,0) [],.tv [] tTok x] (hT g l z cc a b c) (.tup [iv 0,iv 5]) (hT g l z cc a b c):=by
 obtain ⟨x0,x1,x2,_⟩:=x
 refine ev_of (vc34 x0 x1 x2 g (l++z) l.length cc a b c _ ?_)
 ((repeat apply Exists.intro);refine And.intro (Need.mk (put_no g l z cc a b c 1 (leafT (x0,x1,x2,())).1 hb hab ha (by omega) ht)) ?_)
 exact ⟨rfl,rfl⟩
theorem leaf_ok (g:Nat) (l z:List Th) (cc a b c:Int) (x:Tok) (hb:0≤b) (hab:b≤a) (ha:a≤bigM) (ht:1≤a-b) (hl:(l++z).length≤1000) (hc0:0≤cc) (hc1:cc≤bigM) :
  E 34 [.op (0,0) [],.tv [] tTok x] (hT g l z cc a b c) (.tup [iv l.length,iv 0]) (hT (g+1) (l++[leafT x]) [] (cc+1) a (b+1) (max c (b+1))):=by
 obtain ⟨x0,x1,x2,_⟩:=x
 refine ev_of (vc34 x0 x1 x2 g (l++z) l.length cc a b c _ ?_)
 ((repeat apply Exists.intro);refine And.intro (Need.mk (put_ok g l z cc a b c 1 (leafT (x0,x1,x2,())).1 hb hab ha (by omega) ht hl hc0 hc1)) ?_)
 exact ⟨rfl,rfl⟩
theorem idx_ev (l:List Int) (x:Int) (hl:l.length≤1000):∃ i:Int,(0≤i↔x∈l)∧E 100 [lv l,iv x] [] (iv i) []:=by
 have key:EvF PP orc 100 [lv l,iv x] [] fun v h=>∃ i:Int,(0≤i↔x∈l)∧v=iv i∧h=[]:=by
  refine vc100 l x _ ?_
  refine ⟨fun i=>∃ k:Nat,i=k∧k≤l.length∧x ∉ l.take k,fun i=>((l.length:Int)-i).toNat,⟨0,rfl,by omega,by simp⟩,?_⟩
  rintro _ ⟨k,rfl,hk,hn⟩
  refine ⟨fun h=>?_,fun h=>?_⟩
  ·(simp only [dq1,dq2,dq3,dq4] at h)
   have hk':k<l.length:=by omega
   simp only [Int.toNat_natCast]
   refine ⟨⟨by omega⟩,fun h2=>?_,fun h2=>⟨⟨by omega⟩,⟨k+1,by omega,by omega,?_⟩,⟨by ((try dsimp only);omega)⟩⟩⟩
   ·(simp only [dq1,dq2,dq3,dq4] at h2)
    exact ⟨k,⟨fun _=>by rw [h2];exact getD_mem' _ hk',fun _=>by omega⟩,tr0,tr0⟩
   ·(simp only [dq1,dq2,dq3,dq4] at h2)
    rw [take_snoc (0:Int) hk']
    intro hm
    rcases List.mem_append.1 hm with hm | hm
    ·exact hn hm
    ·simp only [List.mem_singleton] at hm;exact h2 hm
  ·(simp only [dq1,dq2,dq3,dq4] at h)
   have:k=l.length:=by omega
   subst this
   rw [List.take_length] at hn
   exact ⟨-1,⟨fun h=>by omega,fun h=>absurd h hn⟩,tr0,tr0⟩
 obtain ⟨a,h',e,i,hi,rfl,rfl⟩:=key
 exact ⟨i,hi,e⟩
theorem has_ev (l:List Int) (x:Int) (hl:l.length≤1000):E 68 [lv l,iv x] [] (bv (decide (x∈l))) []:=by
 obtain ⟨i,hi,e⟩:=idx_ev l x hl
 refine ev_of (vc68 l x _ ?_)
 ((repeat apply Exists.intro);refine And.intro (Need.mk (e)) ?_)
 refine ⟨?_,rfl⟩
 have:decide ((0:Int)≤i)=decide (x∈l):=decide_eq_decide.2 hi
 rw [this]
end Go.Am.Z.T
