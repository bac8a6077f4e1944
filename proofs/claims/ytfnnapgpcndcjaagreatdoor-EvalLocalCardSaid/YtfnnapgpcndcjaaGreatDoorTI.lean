/-
  A part of the proof of a law: see the text that states it.
-/
import Derived.Test.YtfnnapgpcndcjaaGreatDoorTH
import Derived.Test.YtfnnapgpcndcjaaGreatDoorVc8
set_option linter.all false
namespace Go.Am.Z.T
open Go
set_option maxRecDepth 100000
abbrev setBel (x:Nd):Nd:=(x.1,(x.2.1,((x.2.2.1.1,(x.2.2.1.2.1,(x.2.2.1.2.2.1,()))),(x.2.2.2.1,(x.2.2.2.2.1,(true,()))))))
def markN (l:List Th):List Int→List Th
 | []=>l
 | k::ks=>markN (setN l k (setBel (atN l k))) ks
theorem setN_len (l:List Th) (i:Int) (x:Nd):(setN l i x).length=l.length:=by simp [setN]
theorem markN_len:∀ (ks:List Int) (l:List Th),(markN l ks).length=l.length
 | [],_=>rfl
 | k::ks,l=>by rw [markN,markN_len ks,setN_len]
theorem markN_snoc:∀ (ks:List Int) (l:List Th) (k:Int),markN l (ks++[k])=setN (markN l ks) k (setBel (atN (markN l ks) k))
 | [],_,_=>rfl
 | q::ks,l,k=>by simp only [List.cons_append,markN];exact markN_snoc ks _ k
theorem inR_congr {l l':List Th} (h:l'.length=l.length) (i:Int):inR l' i=inR l i:=by simp [inR,h]
abbrev nodeT (rule sym:Int) (ks:List Int):Th:=((rule,(sym,(((0:Int),((0:Int),((0:Int),()))),(ks,(false,(false,())))))),((1+(ks.length:Int)),()))
def twF (l:List Th) (ks:List Int):Nat→Bool
 | 0=>false
 | n+1=>twF l ks n||belN l (ks.getD n 0)||decide (ks.getD n 0∈ks.take n)
def inAll (l:List Th) (ks:List Int):Bool:=ks.all (inR l)
def nodeR (l:List Th) (a b:Int) (ks:List Int):Int×Int :=
 if inAll l ks=false then (0,2) else if twF l ks ks.length=true then (0,15) else if a-b<1+ks.length then (0,5) else ((l.length:Int),0)
def nodeL (l:List Th) (a b rule sym:Int) (ks:List Int):List Th:=if (nodeR l a b ks).2=0 then markN (l++[nodeT rule sym ks]) ks else l
def nodeB (l:List Th) (a b:Int) (ks:List Int):Int:=if (nodeR l a b ks).2=0 then b+(1+ks.length) else b
def nodeC (l:List Th) (a b c:Int) (ks:List Int):Int:=if (nodeR l a b ks).2=0 then max c (b+(1+ks.length)) else c
theorem inAll_take {l:List Th} {ks:List Int} {n:Nat} (h:inAll l (ks.take n)=true) (hn:n<ks.length) (hi:inR l (ks.getD n 0)=true):inAll l (ks.take (n+1))=true:=by
 rw [take_snoc (0:Int) hn];simp only [inAll,List.all_append,Bool.and_eq_true] at *;exact ⟨h,by simpa using hi⟩
theorem twF_false {l:List Th} {ks:List Int}:∀ {n m:Nat},m≤n→twF l ks m=true→twF l ks n=true
  | 0, m, h, e => by have : m = 0 := by omega
                     subst this;exact e
  | n+1,m,h,e=>by
    by_cases hm:m=n+1
    · subst hm;exact e
    · have:=twF_false (n:=n) (m:=m) (by omega) e
      simp [twF,this]
theorem setN_snoc {l:List Th} {x:Th} {k:Int} (y:Nd) (h:inR l k=true):setN (l++[x]) k y=setN l k y++[x]:=by
 simp only [inR,Bool.and_eq_true,decide_eq_true_eq] at h
 unfold setN
 rw [getD_appL _ (by omega),set_appL (by omega)]
theorem atN_snoc {l:List Th} {x:Th} {k:Int} (h:inR l k=true):atN (l++[x]) k=atN l k:=by
 have h':=h
 simp only [inR,Bool.and_eq_true,decide_eq_true_eq] at h
 have h2:inR (l++[x]) k=true:=by simp [inR,h];omega
 unfold atN
 rw [if_pos h',if_pos h2,getD_appL _ (by omega)]
theorem markN_app:∀ (ks:List Int) (l:List Th) (x:Th),inAll l ks=true→markN (l++[x]) ks=markN l ks++[x]
 | [],_,_,_=>rfl
 | k::ks,l,x,h=>by
  simp only [inAll,List.all_cons,Bool.and_eq_true] at h
  simp only [markN]
  rw [atN_snoc h.1,setN_snoc _ h.1]
  refine markN_app ks _ x ?_
  simp only [inAll,List.all_eq_true] at h ⊢
  exact fun q hq=>by rw [inR_congr (setN_len _ _ _)];exact h.2 q hq
theorem node_tv (g:Nat) (l z:List Th) (a b c rule sym:Int) (ks:List Int) (hb:0≤b) (hab:b≤a) (ha:a≤bigM) (hl:(l++z).length≤999) (hk:ks.length≤1000) :
  ∃ g' z',E 36 [.op (0,0) [],iv rule,iv sym,lv ks] (hT g l z b a b c) (.tup [iv (nodeR l a b ks).1,iv (nodeR l a b ks).2]) (hT g' (nodeL l a b rule sym ks) z' (nodeB l a b ks) a (nodeB l a b ks) (nodeC l a b c ks))∧(nodeL l a b rule sym ks++z').length≤(l++z).length+1:=by
 have key:EvF PP orc 36 [.op (0,0) [],iv rule,iv sym,lv ks] (hT g l z b a b c) fun v h'=>∃ g' z',v=.tup [iv (nodeR l a b ks).1,iv (nodeR l a b ks).2]∧h'=hT g' (nodeL l a b rule sym ks) z' (nodeB l a b ks) a (nodeB l a b ks) (nodeC l a b c ks)∧(nodeL l a b rule sym ks++z').length≤(l++z).length+1:=by
  have same:∀ e:Int,nodeR l a b ks=(0,e)→e≠0→∃ g' z',(AV.tup [iv 0,iv e])=.tup [iv (nodeR l a b ks).1,iv (nodeR l a b ks).2]∧hT g l z b a b c=hT g' (nodeL l a b rule sym ks) z' (nodeB l a b ks) a (nodeB l a b ks) (nodeC l a b c ks)∧(nodeL l a b rule sym ks++z').length≤(l++z).length+1:=fun e h1 h2=>by
   refine ⟨g,z,by rw [h1],?_,?_⟩
   ·simp only [nodeL,nodeB,nodeC,h1,if_neg h2]
   ·simp only [nodeL,h1,if_neg h2];omega
  refine vc36 rule sym ks g (l++z) l.length b a b c _ ?_
  refine ⟨fun i γ n cc a' b' c' γ' y=>∃ k:Nat,i=k∧k≤ks.length∧γ=(g:Int)∧n=(l.length:Int)∧cc=b∧a'=a∧b'=b∧c'=c∧γ'=(g:Int)∧y=l++z∧inAll l (ks.take k)=true,fun i _ _ _ _ _ _ _ _=>((ks.length:Int)-i).toNat,⟨tr0⟩,⟨0,rfl,by omega,tr0,tr0,tr0,tr0,tr0,tr0,tr0,tr0,rfl⟩,?_⟩
  rintro _ _ _ cc a b c _ _ ⟨k,rfl,hk1,rfl,rfl,e1,e2,e3,e4,rfl,rfl,hin⟩
  subst e1 e2 e3 e4
  refine ⟨fun h=>?_,fun h=>?_⟩
  ·(simp only [dq1,dq2,dq3,dq4] at h)
   have hk':k<ks.length:=by omega
   refine And.intro (Need.mk ⟨by omega,by omega⟩) ?_
   ((repeat apply Exists.intro);refine And.intro (Need.mk (at_ev g l z b a b c (List.getD ks (Int.toNat (k:Int)) (0:Int)))) ?_)
   refine ⟨fun h2=>?_,fun h2=>⟨⟨by omega⟩,⟨tr0⟩,⟨k+1,by omega,by omega,tr0,tr0,tr0,tr0,tr0,tr0,tr0,tr0,inAll_take hin hk' (by simpa using h2)⟩,⟨by ((try dsimp only);omega)⟩⟩⟩
   refine same 2 ?_ (by omega)
   unfold nodeR
   rw [if_pos]
   have hm:ks.getD k 0∈ks:=getD_mem' _ hk'
   simp only [inAll,List.all_eq_false]
   exact ⟨_,hm,by simpa using h2⟩
  (simp only [dq1,dq2,dq3,dq4] at h)
  have:k=ks.length:=by omega
  subst this
  rw [List.take_length] at hin
  refine ⟨fun i γ n cc a' b' c' γ' y=>∃ k:Nat,i=k∧k≤ks.length∧γ=(g:Int)∧n=(l.length:Int)∧cc=b∧a'=a∧b'=b∧c'=c∧γ'=(g:Int)∧y=l++z∧twF l ks k=false,fun i _ _ _ _ _ _ _ _=>((ks.length:Int)-i).toNat,⟨tr0⟩,⟨0,rfl,by omega,tr0,tr0,tr0,tr0,tr0,tr0,tr0,tr0,rfl⟩,?_⟩
  rintro _ _ _ cc a b c _ _ ⟨k,rfl,hk1,rfl,rfl,e1,e2,e3,e4,rfl,rfl,htw⟩
  subst e1 e2 e3 e4
  have hR1:∀ n,n≤ks.length→twF l ks n=true→nodeR l a b ks=(0,15):=fun n hn h=>by
   unfold nodeR
   rw [if_neg (by simp [hin]),if_pos (twF_false hn h)]
  refine ⟨fun h=>?_,fun h=>?_⟩
  ·(simp only [dq1,dq2,dq3,dq4] at h)
   have hk':k<ks.length:=by omega
   refine And.intro (Need.mk ⟨by omega,by omega⟩) ?_
   ((repeat apply Exists.intro);refine And.intro (Need.mk (at_ev g l z b a b c (List.getD ks (Int.toNat (k:Int)) (0:Int)))) ?_)
   have ex:twF l ks (k+1)=(belN l (ks.getD k 0)||decide (ks.getD k 0∈ks.take k)):=by simp [twF,htw]
   refine ⟨fun h2=>?_,fun h2=>?_⟩
   ·refine same 15 (hR1 (k+1) (by omega) ?_) (by omega)
    rw [ex]
    have:belN l (ks.getD k 0)=true:=h2
    rw [this];rfl
   ·have hbf:belN l (ks.getD k 0)=false:=h2
    refine And.intro (Need.mk ⟨by omega,by omega,by omega⟩) ?_
    have ec:cut ks 0 (Int.toNat (k:Int))=ks.take k:=by simp [cut]
    rw [ec]
    ((repeat apply Exists.intro);refine And.intro (Need.mk (has_ev (ks.take k) (List.getD ks (Int.toNat (k:Int)) (0:Int)) (by rw [List.length_take];omega))) ?_)
    refine ⟨fun h3=>?_,fun h3=>⟨⟨by omega⟩,⟨tr0⟩,⟨k+1,by omega,by omega,tr0,tr0,tr0,tr0,tr0,tr0,tr0,tr0,?_⟩,⟨by ((try dsimp only);omega)⟩⟩⟩
    ·refine same 15 (hR1 (k+1) (by omega) ?_) (by omega)
     rw [ex,hbf];simpa using h3
    ·rw [ex,hbf];simpa using h3
  (simp only [dq1,dq2,dq3,dq4] at h)
  have:k=ks.length:=by omega
  subst this
  ((repeat apply Exists.intro);refine And.intro (Need.mk (clone_ev ks (by unfold bigN;omega))) ?_)
  refine And.intro (Need.mk ⟨by omega,by omega⟩) ?_
  by_cases hq:a-b<1+(ks.length:Int)
  ·((repeat apply Exists.intro);refine And.intro (Need.mk (put_no g l z b a b c (1+(ks.length:Int)) (nodeT rule sym ks).1 hb hab ha (by omega) hq)) ?_)
   refine ⟨fun h2=>?_,fun h2=>by simp at h2⟩
   refine same 5 ?_ (by omega)
   unfold nodeR
   rw [if_neg (by simp [hin]),if_neg (by simp [htw]),if_pos hq]
  have hR:nodeR l a b ks=((l.length:Int),0):=by
   unfold nodeR
   rw [if_neg (by simp [hin]),if_neg (by simp [htw]),if_neg hq]
  ((repeat apply Exists.intro);refine And.intro (Need.mk (put_ok g l z b a b c (1+(ks.length:Int)) (nodeT rule sym ks).1 hb hab ha (by omega) (by omega) (by omega) hb (by omega))) ?_)
  refine ⟨fun h2=>by simp at h2,fun _=>?_⟩
  refine ⟨fun i γ n cc' a' b' c' γ' y=>∃ k:Nat,i=k∧k≤ks.length∧γ=((g+1:Nat):Int)∧n=((l.length+1:Nat):Int)∧cc'=b+(1+(ks.length:Int))∧a'=a∧b'=b+(1+(ks.length:Int))∧c'=max c (b+(1+(ks.length:Int)))∧γ'=((g+1:Nat):Int)∧y=markN (l++[nodeT rule sym ks]) (ks.take k),fun i _ _ _ _ _ _ _ _=>((ks.length:Int)-i).toNat,⟨tr0⟩,⟨0,rfl,by omega,tr0,by simp,tr0,tr0,tr0,tr0,tr0,by simp [markN]⟩,?_⟩
  rintro _ _ _ cc' a' b' c' _ _ ⟨k,rfl,hk1,rfl,rfl,rfl,rfl,rfl,rfl,rfl,rfl⟩
  have hml:(markN (l++[nodeT rule sym ks]) (ks.take k)).length=l.length+1:=by rw [markN_len];simp
  have hhA:∀ m:List Th,m.length=l.length+1→hA (g+1) m [] (b+(1+(ks.length:Int))) a' (b+(1+(ks.length:Int))) (max c (b+(1+(ks.length:Int))))=[oA (0,0) (0,1) (0,2) (g+1) (l.length+1) (b+(1+(ks.length:Int))),oM (0,1) a' (b+(1+(ks.length:Int))) (max c (b+(1+(ks.length:Int)))),oL (0,2) (g+1) m]:=fun m hm=>by
   simp only [hA,List.append_nil,hm]
  refine ⟨fun h2=>?_,fun h2=>?_⟩
  ·(simp only [dq1,dq2,dq3,dq4] at h2)
   have hk':k<ks.length:=by omega
   have hi:inR (markN (l++[nodeT rule sym ks]) (ks.take k)) (List.getD ks (Int.toNat (k:Int)) (0:Int))=true:=by
    have:=List.all_eq_true.1 hin _ (getD_mem' (0:Int) hk')
    simp only [inR,Bool.and_eq_true,decide_eq_true_eq,Int.toNat_natCast] at this ⊢
    omega
   have c1:=at_ev (g+1) (markN (l++[nodeT rule sym ks]) (ks.take k)) [] (b+(1+(ks.length:Int))) a' (b+(1+(ks.length:Int))) (max c (b+(1+(ks.length:Int)))) (List.getD ks (Int.toNat (k:Int)) (0:Int))
   have c2:=set_ev (g+1) (markN (l++[nodeT rule sym ks]) (ks.take k)) [] (b+(1+(ks.length:Int))) a' (b+(1+(ks.length:Int))) (max c (b+(1+(ks.length:Int)))) (List.getD ks (Int.toNat (k:Int)) (0:Int)) (setBel (atN (markN (l++[nodeT rule sym ks]) (ks.take k)) (List.getD ks (Int.toNat (k:Int)) (0:Int)))) hi
   rw [hhA _ hml] at c1 c2
   rw [hhA _ (by rw [setN_len];exact hml)] at c2
   refine And.intro (Need.mk ⟨by omega,by omega⟩) ?_
   ((repeat apply Exists.intro);refine And.intro (Need.mk (c1)) ?_)
   ((repeat apply Exists.intro);refine And.intro (Need.mk (c2)) ?_)
   refine ⟨⟨by omega⟩,⟨tr0⟩,⟨k+1,by omega,by omega,tr0,by simp,tr0,tr0,tr0,tr0,tr0,?_⟩,⟨by ((try dsimp only);omega)⟩⟩
   rw [take_snoc (0:Int) hk',markN_snoc];rfl
  ·(simp only [dq1,dq2,dq3,dq4] at h2)
   have:k=ks.length:=by omega
   subst this
   rw [List.take_length] at hml ⊢
   have e0:nodeL l a' b rule sym ks=markN (l++[nodeT rule sym ks]) ks:=by simp [nodeL,hR]
   have e1:nodeB l a' b ks=b+(1+(ks.length:Int)):=by simp [nodeB,hR]
   have e2:nodeC l a' b c ks=max c (b+(1+(ks.length:Int))):=by simp [nodeC,hR]
   refine ⟨g+1,[],by rw [hR],?_,by rw [e0,List.append_nil,hml,List.length_append];omega⟩
   rw [e0,e1,e2]
   simp only [hT,List.append_nil,hml]
   rfl
 obtain ⟨v,h',e,g',z',rfl,rfl,hlen⟩:=key
 exact ⟨g',z',e,hlen⟩
end Go.Am.Z.T
