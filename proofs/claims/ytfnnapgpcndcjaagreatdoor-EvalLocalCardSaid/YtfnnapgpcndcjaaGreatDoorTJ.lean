/-
  A part of the proof of a law: see the text that states it.
-/
import Derived.Test.YtfnnapgpcndcjaaGreatDoorTI
import Derived.Test.YtfnnapgpcndcjaaGreatDoorVc8
import Derived.Test.YtfnnapgpcndcjaaGreatDoorVc9
import Derived.Test.YtfnnapgpcndcjaaGreatDoorVcB
set_option linter.all false
namespace Go.Am.Z.T
open Go
set_option maxRecDepth 100000
abbrev tRn:Ty:=.pair .bool (.pair (.int .i64) (.pair (.int .i64) (.pair tTok (.pair qt7 (.pair .bool .unit)))))
abbrev Rn:=Bool×Int×Int×Tok×List Int×Bool×Unit
abbrev rn0:Rn:=(false,((0:Int),((0:Int),(((0:Int),((0:Int),((0:Int),()))),(([]:List Int),(false,()))))))
abbrev tRt:Ty:=.pair .ref (.pair (.sref tRn) .unit)
abbrev oRt (k km kl:Key) (g n:Nat):Key×Ob:=(k,⟨⟨tRt,((some km:Option Key),((some (kl,(g,(0,n))):Option (Key×Nat×Nat×Nat)),()))⟩,[]⟩)
abbrev oRl (k:Key) (g:Nat) (l:List Rn):Key×Ob:=(k,⟨⟨.arr (Nat.succ g) l.length tRn,l⟩,[]⟩)
abbrev oRln (k:Key) (g n:Nat) (l:List Rn):Key×Ob:=(k,⟨⟨.arr (Nat.succ g) n tRn,l⟩,[]⟩)
abbrev hR (g:Nat) (l:List Rn) (a b c:Int):Heap:=[oRt (0,0) (0,1) (0,2) g l.length,oM (0,1) a b c,oRl (0,2) g l]
theorem hR_eq {g n n':Nat} {l m:List Rn} {a b c:Int} (h:n=l.length) (hm:m=l) (h':n'=l.length):[oRt (0,0) (0,1) (0,2) g n,oM (0,1) a b c,oRln (0,2) g n' m]=hR g l a b c:=by subst h;subst hm;subst h';rfl
def toR (x:Th):Rn:=(x.1.2.2.2.2.1,(x.1.1,(x.1.2.1,((x.1.2.2.1.1,(x.1.2.2.1.2.1,(x.1.2.2.1.2.2.1,()))),(x.1.2.2.2.1,(x.1.2.2.2.2.2.1,()))))))
abbrev toRL (l:List Th):List Rn:=l.map toR
abbrev setBelR (x:Rn):Rn:=(x.1,(x.2.1,(x.2.2.1,(x.2.2.2.1,(x.2.2.2.2.1,(true,x.2.2.2.2.2.2))))))
theorem toRL_get (l:List Th) (i:Nat):(toRL l).getD i rn0=toR (l.getD i th0):=by
 simp only [List.getD_eq_getElem?_getD,List.getElem?_map]
 cases l[i]? <;> rfl
theorem toRL_set {l:List Th} {k:Int} (h:inR l k=true):toRL (setN l k (setBel (atN l k)))=(toRL l).set k.toNat (setBelR ((toRL l).getD k.toNat rn0)):=by
 rw [toRL_get]
 unfold setN toRL
 rw [List.map_set]
 have e:atN l k=(l.getD k.toNat th0).1:=by unfold atN;rw [if_pos h]
 rw [e];rfl
theorem rtake_ev (a b c n:Int) (hb:0≤b) (hab:b≤a) (ha:a≤bigM):E 67 [.op (0,0) [],iv n] (hM a b c) (iv (takeR a b n)) (hM a (takeB a b n) (takeC a b c n)):=by
 unfold bigM at ha
 refine ev_of (vc67 n a b c _ ⟨fun h=>?_,fun h=>⟨⟨by omega⟩,fun h2=>?_,fun h2=>⟨⟨by (simp only [dq1,dq2,dq3,dq4] at h);(simp only [dq1,dq2,dq3,dq4] at h2);omega⟩,fun h3=>?_,fun h3=>?_⟩⟩⟩)
 ·(simp only [dq1,dq2,dq3,dq4] at h)
  have e:takeR a b n=1:=by unfold takeR;rw [if_pos h]
  simp [takeB,takeC,e]
 ·(simp only [dq1,dq2,dq3,dq4] at h);(simp only [dq1,dq2,dq3,dq4] at h2)
  have e:takeR a b n=5:=by unfold takeR;rw [if_neg h,if_pos h2]
  simp [takeB,takeC,e]
 ·(simp only [dq1,dq2,dq3,dq4] at h);(simp only [dq1,dq2,dq3,dq4] at h2);(simp only [dq1,dq2,dq3,dq4] at h3)
  have e:takeR a b n=0:=by unfold takeR;rw [if_neg h,if_neg h2]
  have e2:max c (b+n)=b+n:=by omega
  simp [takeB,takeC,e,e2]
 ·(simp only [dq1,dq2,dq3,dq4] at h);(simp only [dq1,dq2,dq3,dq4] at h2);(simp only [dq1,dq2,dq3,dq4] at h3)
  have e:takeR a b n=0:=by unfold takeR;rw [if_neg h,if_neg h2]
  have e2:max c (b+n)=c:=by omega
  simp [takeB,takeC,e,e2]
theorem in_ev (l:List Int) (x:Int) (hl:l.length≤1000):E 71 [lv l,iv x] [] (bv (decide (x∈l))) []:=by
 refine ev_of (vc71 l x _ ?_)
 refine ⟨fun i=>∃ k:Nat,i=k∧k≤l.length∧x ∉ l.take k,fun i=>((l.length:Int)-i).toNat,⟨0,rfl,by omega,by simp⟩,?_⟩
 rintro _ ⟨k,rfl,hk,hn⟩
 refine ⟨fun h=>?_,fun h=>?_⟩
 ·(simp only [dq1,dq2,dq3,dq4] at h)
  have hk':k<l.length:=by omega
  simp only [Int.toNat_natCast]
  refine ⟨⟨by omega⟩,fun h2=>?_,fun h2=>⟨⟨by omega⟩,⟨k+1,by omega,by omega,?_⟩,⟨by ((try dsimp only);omega)⟩⟩⟩
  ·(simp only [dq1,dq2,dq3,dq4] at h2)
   have:x∈l:=by rw [← h2];exact getD_mem' _ hk'
   simp [this]
  ·(simp only [dq1,dq2,dq3,dq4] at h2)
   rw [take_snoc (0:Int) hk']
   intro hm
   rcases List.mem_append.1 hm with hm | hm
   ·exact hn hm
   ·simp only [List.mem_singleton] at hm;exact h2 hm.symm
 ·(simp only [dq1,dq2,dq3,dq4] at h)
  have:k=l.length:=by omega
  subst this
  rw [List.take_length] at hn
  simp [hn]
theorem rleaf_no (g:Nat) (l:List Th) (a b c:Int) (x:Tok) (hb:0≤b) (hab:b≤a) (ha:a≤bigM) (ht:a-b<1):E 35 [.op (0,0) [],.tv [] tTok x] (hR g (toRL l) a b c) (.tup [iv 0,iv 5]) (hR g (toRL l) a b c):=by
 obtain ⟨x0,x1,x2,_⟩:=x
 have e:takeR a b 1=5:=by unfold takeR;rw [if_neg (by omega),if_pos ht]
 refine ev_of (vc35 x0 x1 x2 g (toRL l) a b c _ ?_)
 ((repeat apply Exists.intro);refine And.intro (Need.mk (rtake_ev a b c 1 hb hab ha)) ?_)
 simp [e,takeB,takeC]
theorem rleaf_ok (g:Nat) (l:List Th) (a b c:Int) (x:Tok) (hb:0≤b) (hab:b≤a) (ha:a≤bigM) (ht:1≤a-b) (hl:l.length≤1000) :
  E 35 [.op (0,0) [],.tv [] tTok x] (hR g (toRL l) a b c) (.tup [iv l.length,iv 0]) (hR (g+1) (toRL (l++[leafT x])) a (b+1) (max c (b+1))):=by
 obtain ⟨x0,x1,x2,_⟩:=x
 have e:takeR a b 1=0:=by unfold takeR;rw [if_neg (by omega),if_neg (by omega)]
 refine ev_of (vc35 x0 x1 x2 g (toRL l) a b c _ ?_)
 ((repeat apply Exists.intro);refine And.intro (Need.mk (rtake_ev a b c 1 hb hab ha)) ?_)
 refine ⟨fun h=>by simp [e] at h,fun _=>⟨⟨by refine ⟨rfl,?_,?_,?_⟩ <;> simp only [List.length_map,List.length_cons,List.length_nil,bigN] <;> omega⟩,⟨by simp only [List.length_map,List.length_cons,List.length_nil];omega⟩,?_⟩⟩
 simp only [takeB,takeC,e,if_true,List.take_length]
 refine ⟨?_,hR_eq (by simp) (by simp [toR]) (by simp)⟩
 simp
def CellOK (l:List Th):Prop:=∀ x∈l,x.2.1=1+(x.1.2.2.2.1.length:Int)
theorem CellOK.nn {l} (h:CellOK l):∀ x∈l,0≤x.2.1:=fun x hx=>by rw [h x hx];omega
end Go.Am.Z.T
