/-
  A part of the proof of a law: see the text that states it.
-/
import Derived.Test.YtfnnapgpcndcjaaGreatDoorTK
import Derived.Test.YtfnnapgpcndcjaaGreatDoorVc1
set_option linter.all false
namespace Go.Am.Z.T
open Go
set_option maxRecDepth 100000
inductive Tr:List Th→Prop
 | nil:Tr []
 | leaf (l:List Th) (x:Tok):Tr l→Tr (l++[leafT x])
 | node (l:List Th) (rule sym:Int) (ks:List Int):Tr l→inAll l ks=true→twF l ks ks.length=false→ks.length≤1000→Tr (markN (l++[nodeT rule sym ks]) ks)
theorem map_setN {α:Type} {f:Th→α} (hf:∀ x:Th,f (setBel x.1,x.2)=f x) {l:List Th} {k:Int} (h:inR l k=true):(setN l k (setBel (atN l k))).map f=l.map f:=by
 have e:atN l k=(l.getD k.toNat th0).1:=by unfold atN;rw [if_pos h]
 simp only [inR,Bool.and_eq_true,decide_eq_true_eq] at h
 unfold setN
 rw [List.map_set,e,hf]
 have hk:k.toNat<l.length:=by omega
 have e2:l.getD k.toNat th0=l[k.toNat]'hk:=by rw [List.getD_eq_getElem?_getD,List.getElem?_eq_getElem hk];rfl
 rw [e2]
 apply List.ext_getElem
 ·simp
 ·intro i h1 h2
  rw [List.getElem_set]
  split
  ·rename_i e3;subst e3;simp
  ·rfl
theorem inAll_len {l l':List Th} {ks:List Int} (h:l'.length=l.length) (hi:inAll l ks=true):inAll l' ks=true:=by
 simp only [inAll,List.all_eq_true] at *
 exact fun k hk=>by rw [inR_congr h];exact hi k hk
theorem map_markN {α:Type} {f:Th→α} (hf:∀ x:Th,f (setBel x.1,x.2)=f x):∀ {ks:List Int} {l:List Th},inAll l ks=true→(markN l ks).map f=l.map f
 | [],_,_=>rfl
 | k::ks,l,h=>by
  have h':=h
  simp only [inAll,List.all_cons,Bool.and_eq_true] at h'
  rw [markN,map_markN hf (inAll_len (setN_len _ _ _) (by simpa [inAll] using h'.2)),map_setN hf h'.1]
theorem inAll_snoc {l:List Th} {x:Th} {ks:List Int} (h:inAll l ks=true):inAll (l++[x]) ks=true:=by
 simp only [inAll,List.all_eq_true] at *
 intro k hk
 have:=h k hk
 simp only [inR,Bool.and_eq_true,decide_eq_true_eq,List.length_append,List.length_cons,List.length_nil] at *
 omega
theorem cellOK_map {l:List Th}:CellOK l↔∀ y∈l.map (fun x:Th=>(x.2.1,x.1.2.2.2.1)),y.1=1+(y.2.length:Int):=by
 constructor
 ·intro h y hy
  obtain ⟨x,hx,rfl⟩:=List.mem_map.1 hy
  exact h x hx
 ·intro h x hx
  exact h _ (List.mem_map.2 ⟨x,hx,rfl⟩)
theorem Tr.cells {l:List Th} (h:Tr l):CellOK l:=by
 induction h with
 | nil=>intro x hx;simp at hx
 | leaf l x _ ih =>
  intro y hy
  rcases List.mem_append.1 hy with hy | hy
  ·exact ih y hy
  ·simp only [List.mem_singleton] at hy;subst hy;rfl
 | node l rule sym ks _ hi _ _ ih =>
  rw [cellOK_map,map_markN (fun x=>rfl) (inAll_snoc hi),← cellOK_map]
  intro y hy
  rcases List.mem_append.1 hy with hy | hy
  ·exact ih y hy
  ·simp only [List.mem_singleton] at hy;subst hy;rfl
theorem cellS_markN {l:List Th} {ks:List Int} (h:inAll l ks=true):cellS (markN l ks)=cellS l:=by
 unfold cellS;rw [map_markN (fun x=>rfl) h]
theorem cellS_snoc (l:List Th) (x:Th):cellS (l++[x])=cellS l+x.2.1:=by simp [cellS]
theorem Tr.klen {l:List Th} (h:Tr l):∀ x∈l,x.1.2.2.2.1.length≤1000:=by
 have mp:∀ l:List Th,(∀ x∈l,x.1.2.2.2.1.length≤1000)↔∀ y∈l.map (fun x:Th=>x.1.2.2.2.1),y.length≤1000:=fun l=>by
  constructor
  ·intro h y hy
   obtain ⟨x,hx,rfl⟩:=List.mem_map.1 hy
   exact h x hx
  ·intro h x hx
   exact h _ (List.mem_map.2 ⟨x,hx,rfl⟩)
 induction h with
 | nil=>intro x hx;simp at hx
 | leaf l x _ ih =>
  intro y hy
  rcases List.mem_append.1 hy with hy | hy
  ·exact ih y hy
  ·simp only [List.mem_singleton] at hy;subst hy;simp
 | node l rule sym ks _ hi _ hk ih =>
  rw [mp,map_markN (fun x=>rfl) (inAll_snoc hi),← mp]
  intro y hy
  rcases List.mem_append.1 hy with hy | hy
  ·exact ih y hy
  ·simp only [List.mem_singleton] at hy;subst hy;exact hk
theorem atN_in {l:List Th} {i:Int} (h:inR l i=true):atN l i=(l.getD i.toNat th0).1:=by unfold atN;rw [if_pos h]
theorem Tr.kidsN {l:List Th} (h:Tr l) (i:Int):(kidsN l i).length≤1000:=by
 unfold T.kidsN atN
 split
 ·rename_i hi
  simp only [inR,Bool.and_eq_true,decide_eq_true_eq] at hi
  exact h.klen _ (getD_mem' _ (by omega))
 ·simp
structure Ok (a:Int) (k:Nat) (l z:List Th) (b:Int):Prop where
 tr:Tr l
 sum:cellS l=b
 le:b≤a
 lim:a≤bigM
 len:(l++z).length≤k
theorem Ok.nn {a k l z b} (h:Ok a k l z b):0≤b:=by rw [← h.sum];exact cellS_nn h.tr.cells.nn
abbrev tOp:Ty:=.pair (.int .i64) (.pair (.int .i64) (.pair (.int .i64) (.pair tTok (.pair qt7 .unit))))
abbrev Op:=Int×Int×Int×Tok×List Int×Unit
abbrev hD (g:Nat) (l z:List Th) (gr:Nat) (a b c:Int):Heap:=[oT (0,0) (0,2),oRt (0,1) (0,3) (0,4) gr (toRL l).length,oA (0,2) (0,5) (0,6) g l.length b,oM (0,3) a b c,oRl (0,4) gr (toRL l),oM (0,5) a b c,oL (0,6) g (l++z)]
end Go.Am.Z.T
namespace Go.Am.Z.T
open Go
set_option maxRecDepth 100000
end Go.Am.Z.T
namespace Go.Am.Z.T
open Go
set_option maxRecDepth 100000
theorem Few_ev (s:Sml) (n m:Nat) (hl:s.2.2.2.1.length≤maxLen):∃ b:Bool,(b=true→s.2.2.1.length≤n∧s.2.2.2.2.2.1.length≤5∧∀ x∈s.2.2.2.1,x.length≤m)∧E 7 [.tv [] tSm s,iv n,iv m] [] (bv b) []:=by
 obtain ⟨x0,x1,a2,a3,a4,a5,a6,_⟩:=s
 simp only at hl
 unfold maxLen at hl
 have key:EvF PP orc 7 [.tv [] tSm (x0,x1,a2,a3,a4,a5,a6,()),iv n,iv m] [] fun v h=>∃ b:Bool,(b=true→a2.length≤n∧a5.length≤5∧∀ x∈a3,x.length≤m)∧v=bv b∧h=[]:=by
  refine vc7 x0 x1 a2 a3 a4 a5 a6 n m _ ⟨fun h=>⟨false,nofun,rfl,rfl⟩,fun h1=>⟨fun h=>⟨false,nofun,rfl,rfl⟩,fun h2=>?_⟩⟩
  (simp only [dq1,dq2,dq3,dq4] at h1);(simp only [dq1,dq2,dq3,dq4] at h2)
  refine ⟨fun i=>∃ k:Nat,i=k∧k≤a3.length∧∀ o∈a3.take k,o.length≤m,fun i=>((a3.length:Int)-i).toNat,⟨0,rfl,by omega,by simp⟩,?_⟩
  rintro _ ⟨k,rfl,hk,hv⟩
  refine ⟨fun h=>?_,fun h=>?_⟩
  ·(simp only [dq1,dq2,dq3,dq4] at h)
   have hk':k<a3.length:=by omega
   simp only [Int.toNat_natCast]
   refine ⟨⟨by omega⟩,fun h2=>⟨false,nofun,rfl,tr0⟩,fun h2=>⟨⟨by omega⟩,⟨k+1,by omega,by omega,?_⟩,⟨by ((try dsimp only);omega)⟩⟩⟩
   (simp only [dq1,dq2,dq3,dq4] at h2)
   rw [take_snoc ([]:List Int) hk']
   intro o ho
   rcases List.mem_append.1 ho with ho | ho
   ·exact hv o ho
   ·simp only [List.mem_singleton] at ho;rw [ho];omega
  ·(simp only [dq1,dq2,dq3,dq4] at h)
   have:k=a3.length:=by omega
   subst this
   rw [List.take_length] at hv
   exact ⟨true,fun _=>⟨by omega,by omega,hv⟩,rfl,tr0⟩
 obtain ⟨v,h',e,b,hb,rfl,rfl⟩:=key
 exact ⟨b,hb,e⟩
abbrev hMade (g:Nat) (l z:List Th) (gr:Nat) (a b c:Int):Heap:=[oRt (1,1) (1,3) (1,4) gr (toRL l).length,oRl (1,4) gr (toRL l),oM (1,3) a b c,oL (1,6) g (l++z),oA (1,2) (1,5) (1,6) g l.length b,oT (1,0) (1,2),oM (1,5) a b c]
end Go.Am.Z.T
