/-
  A part of the proof of a law: see the text that states it.
-/
import Derived.Test.YtfnnapgpcndcjaaGreatDoorTU
import Derived.Test.YtfnnapgpcndcjaaGreatDoorTN
set_option linter.all false
namespace Go.Am.Z.T
open Go
set_option maxRecDepth 100000
theorem below_kids {l:List Th} (h:Tr l):∀ (n:Nat) (i:Int),i.toNat≤n→inR l i=true→∀ q,q<(below l i).length→∀ k∈kidsN l ((below l i).getD q 0),k∈(below l i).take q:=by
 intro n
 induction n using Nat.strongRecOn with
 | _ n ih =>
  intro i hn hi q hq k hk
  obtain ⟨q1,q2⟩:=tr_below h i hi
  have hi':=inR_iff.1 hi
  have flat:∀ ks:List Int,(∀ x∈ks,0≤x∧x<i)→∀ q,q<(ks.flatMap (below l)).length→∀ k∈kidsN l ((ks.flatMap (below l)).getD q 0),k∈(ks.flatMap (below l)).take q:=fun ks=>by
   induction ks with
   | nil=>intro _ q hq;simp at hq
   | cons x ks ihk =>
    intro hx q hq k hk
    have h1:=hx x List.mem_cons_self
    have hxi:inR l x=true:=by rw [inR_iff];omega
    rw [List.flatMap_cons] at hq hk ⊢
    rw [List.take_append]
    by_cases hc:q<(below l x).length
    ·rw [show List.getD (below l x++ks.flatMap (below l)) q 0=(below l x).getD q 0 from by simp only [List.getD_eq_getElem?_getD,List.getElem?_append_left hc]] at hk
     exact List.mem_append_left _ (ih x.toNat (by omega) x (Nat.le_refl _) hxi q hc k hk)
    ·rw [show List.getD (below l x++ks.flatMap (below l)) q 0=(ks.flatMap (below l)).getD (q-(below l x).length) 0 from by simp only [List.getD_eq_getElem?_getD,List.getElem?_append_right (Nat.le_of_not_lt hc)]] at hk
     rw [List.length_append] at hq
     exact List.mem_append_right _ (ihk (fun y hy=>hx y (List.mem_cons_of_mem _ hy)) _ (by omega) k hk)
  rw [q1] at hq hk ⊢
  rw [List.length_append] at hq
  by_cases hc:q<((kidsN l i).flatMap (below l)).length
  ·rw [show List.getD ((kidsN l i).flatMap (below l)++[i]) q 0=((kidsN l i).flatMap (below l)).getD q 0 from by simp only [List.getD_eq_getElem?_getD,List.getElem?_append_left hc]] at hk
   rw [List.take_append_of_le_length (by omega)]
   exact flat _ q2 q hc k hk
  ·have e:q=((kidsN l i).flatMap (below l)).length:=by simp only [List.length_cons,List.length_nil] at hq;omega
   rw [e,getD_last _ _ _ rfl] at hk
   rw [e,List.take_left]
   have hkx:=q2 k hk
   have hkb:k∈below l k:=by
    have hki:inR l k=true:=by rw [inR_iff];omega
    rw [(tr_below h k hki).1];simp
   exact List.mem_flatMap.2 ⟨k,hk,hkb⟩
section
variable {α:Type}
def treeF (F:Int→List α→α) (d:α) (l:List Th):Nat→Int→α
 | 0,_=>d
 | n+1,i=>F i ((kidsN l i).map (treeF F d l n))
def treeN (F:Int→List α→α) (d:α) (l:List Th) (i:Int):α:=treeF F d l (i.toNat+1) i
theorem kid_in {l:List Th} (h:Tr l) {i:Int} (hi:inR l i=true) {k:Int} (hk:k∈kidsN l i):0≤k∧k<i∧inR l k=true:=by
 have h1:=(tr_below h i hi).2 k hk
 have hi':=inR_iff.1 hi
 exact ⟨h1.1,h1.2,by rw [inR_iff];omega⟩
theorem treeF_eq {F:Int→List α→α} {d:α} {l:List Th} (h:Tr l):∀ (m:Nat) (i:Int) (n:Nat),inR l i=true→i.toNat≤m→i.toNat<n→treeF F d l n i=treeN F d l i:=by
 intro m
 induction m using Nat.strongRecOn with
 | _ m ih =>
  intro i n hi hm hn
  obtain ⟨n,rfl⟩:∃ k,n=k+1:=⟨n-1,by omega⟩
  unfold treeN
  simp only [treeF]
  congr 1
  apply List.map_congr_left
  intro k hk
  obtain ⟨k1,k2,k3⟩:=kid_in h hi hk
  rw [ih k.toNat (by omega) k n k3 (Nat.le_refl _) (by omega),ih k.toNat (by omega) k i.toNat k3 (Nat.le_refl _) (by omega)]
theorem treeN_eq {F:Int→List α→α} {d:α} {l:List Th} (h:Tr l) {i:Int} (hi:inR l i=true):treeN F d l i=F i ((kidsN l i).map (treeN F d l)):=by
 conv=>lhs;unfold treeN
 simp only [treeF]
 congr 1
 apply List.map_congr_left
 intro k hk
 obtain ⟨k1,k2,k3⟩:=kid_in h hi hk
 rw [treeF_eq h k.toNat k i.toNat k3 (Nat.le_refl _) (by omega)]
theorem treeN_ext {F F':Int→List α→α} {d:α} {l l':List Th} (h:Tr l) (h':Tr l') (hx:∀ i,inR l i=true→inR l' i=true∧kidsN l' i=kidsN l i∧∀ vs,F' i vs=F i vs):∀ (n:Nat) (i:Int),i.toNat≤n→inR l i=true→treeN F' d l' i=treeN F d l i:=by
 intro n
 induction n using Nat.strongRecOn with
 | _ n ih =>
  intro i hn hi
  obtain ⟨x1,x2,x3⟩:=hx i hi
  rw [treeN_eq h hi,treeN_eq h' x1,x2,x3]
  congr 1
  apply List.map_congr_left
  intro k hk
  obtain ⟨k1,k2,k3⟩:=kid_in h hi hk
  exact ih k.toNat (by omega) k (Nat.le_refl _) k3
end
end Go.Am.Z.T
namespace Go.Am.Z.T
open Go
set_option maxRecDepth 100000
def freeK (l:List Th) (m:Nat):Nat→List Int→List Int
 | 0,acc=>acc
 | j+1,acc=>if acc.length<m then (if belN l (j:Int)=true then freeK l m j acc else freeK l m j ((j:Int)::acc)) else acc
theorem freeK_len (l:List Th) (m:Nat):∀ (j:Nat) (acc:List Int),acc.length≤m→(freeK l m j acc).length≤m
 | 0,acc,h=>h
 | j+1,acc,h=>by
  unfold freeK
  split
  ·split
   ·exact freeK_len l m j acc h
   ·exact freeK_len l m j _ (by simp only [List.length_cons];omega)
  ·exact h
def leafL (l:List Th) (x:Tok):List Th:=if 1000-cellS l<1 then l else l++[leafT x]
def nodL (l:List Th) (rule sym:Int) (ks:List Int):List Th:=nodeL l 1000 (cellS l) rule sym ks
def madeS (p:Pl) (toks:List Tok) (s:List Th×Nat) (b:Int):List Th×Nat :=
 let k:=Int.tmod b ((p.2.2.1.length:Int)+2)
 if k<1∨(p.2.2.1.length:Int)≤k then (if s.2<toks.length then (leafL s.1 (toks.getD s.2 (0,0,0,())),s.2+1) else (s.1,s.2+1))
 else (nodL s.1 k (p.2.2.1.getD k.toNat ((0:Int),(([]:List Int),((0:Int),())))).1 (freeK s.1 (p.2.2.1.getD k.toNat ((0:Int),(([]:List Int),((0:Int),())))).2.1.length s.1.length []),s.2)
def madeL (p:Pl) (toks:List Tok) (bs:List Int):List Th×Nat:=bs.foldl (madeS p toks) ([],0)
def core (x:Th):Int×Int×Tok×List Int×Bool:=(x.1.1,x.1.2.1,x.1.2.2.1,x.1.2.2.2.1,x.1.2.2.2.2.1)
def Ext (l l':List Th):Prop:=∃ m,l'.map core=l.map core++m
theorem Ext.refl (l:List Th):Ext l l:=⟨[],by simp⟩
theorem Ext.trans {a b c:List Th} (h1:Ext a b) (h2:Ext b c):Ext a c:=by
 obtain ⟨m,e1⟩:=h1
 obtain ⟨n,e2⟩:=h2
 exact ⟨m++n,by rw [e2,e1,List.append_assoc]⟩
theorem Ext.len {l l':List Th} (h:Ext l l'):l.length≤l'.length:=by
 obtain ⟨m,e⟩:=h
 have:=congrArg List.length e
 simp at this
 omega
theorem Ext.at {l l':List Th} (h:Ext l l') {i:Int} (hi:inR l i=true):inR l' i=true∧core (l'.getD i.toNat th0)=core (l.getD i.toNat th0):=by
 have hl:=h.len
 have hi':=inR_iff.1 hi
 refine ⟨by rw [inR_iff];omega,?_⟩
 obtain ⟨m,e⟩:=h
 have h1:(l'.map core).getD i.toNat (core th0)=core (l'.getD i.toNat th0):=by
  simp only [List.getD_eq_getElem?_getD,List.getElem?_map];cases l'[i.toNat]? <;> rfl
 have h2:(l.map core).getD i.toNat (core th0)=core (l.getD i.toNat th0):=by
  simp only [List.getD_eq_getElem?_getD,List.getElem?_map];cases l[i.toNat]? <;> rfl
 rw [← h1,← h2,e]
 simp only [List.getD_eq_getElem?_getD]
 rw [List.getElem?_append_left (by simp;omega)]
theorem Ext.same {l l':List Th} (h:Ext l l') {i:Int} (hi:inR l i=true):ruleN l' i=ruleN l i∧symN l' i=symN l i∧tokN l' i=tokN l i∧kidsN l' i=kidsN l i∧leafN l' i=leafN l i:=by
 obtain ⟨h1,h2⟩:=h.at hi
 unfold ruleN symN tokN kidsN leafN
 rw [if_pos hi,if_pos h1,if_pos hi,if_pos h1,atN_in hi,atN_in h1]
 unfold core at h2
 simp only [Prod.mk.injEq] at h2
 exact ⟨h2.1,h2.2.1,h2.2.2.1,h2.2.2.2.1,h2.2.2.2.2⟩
theorem leafL_ext (l:List Th) (x:Tok):Ext l (leafL l x):=by
 unfold leafL
 split
 ·exact .refl l
 ·exact ⟨[core (leafT x)],by simp⟩
theorem nodeR_ok {l:List Th} {a b:Int} {ks:List Int} (h:(nodeR l a b ks).2=0):inAll l ks=true∧twF l ks ks.length=false∧¬ a-b<1+ks.length:=by
 unfold nodeR at h
 split at h
 ·simp at h
 ·rename_i hi
  split at h
  ·simp at h
  ·rename_i ht
   split at h
   ·simp at h
   ·rename_i hq
    exact ⟨by simpa using hi,by simpa using ht,hq⟩
theorem nodL_ext (l:List Th) (rule sym:Int) (ks:List Int):Ext l (nodL l rule sym ks):=by
 unfold nodL nodeL
 split
 ·rename_i h
  obtain ⟨h1,_,_⟩:=nodeR_ok h
  refine ⟨[core (nodeT rule sym ks)],?_⟩
  rw [map_markN (f:=core) (fun x=>rfl) (inAll_snoc h1)]
  simp
 ·exact .refl l
theorem madeS_ext (p:Pl) (toks:List Tok) (s:List Th×Nat) (b:Int):Ext s.1 (madeS p toks s b).1:=by
 unfold madeS
 simp only
 split
 ·split
  ·exact leafL_ext _ _
  ·exact .refl _
 ·exact nodL_ext _ _ _ _
theorem foldS_ext (p:Pl) (toks:List Tok):∀ (bs:List Int) (s:List Th×Nat),Ext s.1 (bs.foldl (madeS p toks) s).1
 | [],s=>.refl _
 | b::bs,s=>(madeS_ext p toks s b).trans (foldS_ext p toks bs _)
theorem madeL_ext (p:Pl) (toks:List Tok) (bs cs:List Int):Ext (madeL p toks bs).1 (madeL p toks (bs++cs)).1:=by
 unfold madeL
 rw [List.foldl_append]
 exact foldS_ext p toks cs _
theorem nodL_tr {l:List Th} (h:Tr l) (rule sym:Int) {ks:List Int} (hk:ks.length≤1000):Tr (nodL l rule sym ks):=by
 unfold nodL nodeL
 split
 ·rename_i hr
  obtain ⟨h1,h2,_⟩:=nodeR_ok hr
  exact .node _ _ _ _ h h1 h2 hk
 ·exact h
end Go.Am.Z.T
namespace Go.Am.Z.T
open Go
set_option maxRecDepth 100000
theorem mget_mset {β:Type} (d v:β) (k j:Int):∀ l:List (Int×β),Pr.mget (Pr.mset l k v) j d=if j=k then v else Pr.mget l j d
 | []=>by simp only [Pr.mset,Pr.mget]
 | (a,b)::l=>by
  have ih:=mget_mset d v k j l
  simp only [Pr.mset]
  by_cases h:k=a
  ·rw [if_pos h]
   simp only [Pr.mget]
   subst h
   split <;> rfl
  ·rw [if_neg h]
   simp only [Pr.mget,ih]
   by_cases h2:j=a
   ·rw [if_pos h2,if_neg (by omega),if_pos h2]
   ·rw [if_neg h2,if_neg h2]
section
variable {α:Type}
def Told (F:Int→List α→α) (d:α) (l:List Th) (i:Int) (q:Nat) (m:List (Int×α)):Prop:=∀ k∈(below l i).take q,Pr.mget m k d=treeN F d l k
theorem Told.zero (F:Int→List α→α) (d:α) (l:List Th) (i:Int):Told F d l i 0 []:=fun k hk=>by simp at hk
theorem below_inR {l:List Th} (h:Tr l) {i k:Int} (hk:k∈below l i):inR l k=true:=by
 have h1:=tr_lt h i.toNat i (Nat.le_refl _) k hk
 rw [inR_iff];omega
theorem Told.val {F:Int→List α→α} {d:α} {l:List Th} (h:Tr l) {i:Int} (hi:inR l i=true) {q:Nat} {m:List (Int×α)} (ht:Told F d l i q m) (hq:q<(below l i).length) :
  F ((below l i).getD q 0) ((kidsN l ((below l i).getD q 0)).map fun k=>Pr.mget m k d)=treeN F d l ((below l i).getD q 0):=by
 have hm:=getD_mem' (0:Int) hq
 rw [treeN_eq h (below_inR h hm)]
 congr 1
 apply List.map_congr_left
 intro k hk
 exact ht k (below_kids h i.toNat i (Nat.le_refl _) hi q hq k hk)
theorem Told.step {F:Int→List α→α} {d:α} {l:List Th} (h:Tr l) {i:Int} (hi:inR l i=true) {q:Nat} {m:List (Int×α)} (ht:Told F d l i q m) (hq:q<(below l i).length) :
  Told F d l i (q+1) (Pr.mset m ((below l i).getD q 0) (F ((below l i).getD q 0) ((kidsN l ((below l i).getD q 0)).map fun k=>Pr.mget m k d))):=by
 intro k hk
 rw [mget_mset,ht.val h hi hq]
 rw [take_snoc (0:Int) hq] at hk
 split
 ·rename_i e;rw [e]
 ·rename_i e
  rcases List.mem_append.1 hk with hk | hk
  ·exact ht k hk
  ·exact absurd (List.mem_singleton.1 hk) e
theorem Told.root {F:Int→List α→α} {d:α} {l:List Th} (h:Tr l) {i:Int} (hi:inR l i=true) {m:List (Int×α)} (ht:Told F d l i (below l i).length m):Pr.mget m i d=treeN F d l i:=by
 refine ht i ?_
 rw [List.take_length,(tr_below h i hi).1];simp
end
def costG (f:Int→Nat) (l:List Th) (i:Int) (q:Nat):Nat:=(((below l i).take q).map f).sum
theorem costG_succ {f:Int→Nat} {l:List Th} {i:Int} {q:Nat} (hq:q<(below l i).length):costG f l i (q+1)=costG f l i q+f ((below l i).getD q 0):=by
 unfold costG
 rw [take_snoc (0:Int) hq,List.map_append,List.sum_append];simp
theorem costG_le {f:Int→Nat} {l:List Th} {i:Int} {b:Nat} (hf:∀ k,f k≤b):∀ q,costG f l i q≤b * q:=by
 intro q
 induction q with
 | zero=>simp [costG]
 | succ q ih =>
  by_cases hq:q<(below l i).length
  ·rw [costG_succ hq,Nat.mul_succ]
   have:=hf ((below l i).getD q 0)
   omega
  ·have:costG f l i (q+1)=costG f l i q:=by
    unfold costG
    rw [List.take_of_length_le (by omega),List.take_of_length_le (by omega)]
   rw [this,Nat.mul_succ];omega
theorem costG_mono {f:Int→Nat} {l:List Th} {i:Int} {q:Nat}:∀ {p:Nat},p≤q→costG f l i p≤costG f l i q:=by
  induction q with
  | zero => intro p h; have : p = 0 := by omega
            subst this;exact Nat.le_refl _
  | succ q ih =>
    intro p h
    by_cases e:p=q+1
    · subst e;exact Nat.le_refl _
    · have h1:=ih (p:=p) (by omega)
      by_cases hq:q<(below l i).length
      · rw [costG_succ hq];omega
      · have : costG f l i (q + 1) = costG f l i q := by
          unfold costG
          rw [List.take_of_length_le (by omega),List.take_of_length_le (by omega)]
        omega
end Go.Am.Z.T
