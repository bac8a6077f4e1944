/-
  A part of the proof of a law: see the text that states it.
-/
import Derived.Test.YtfnnapgpcndcjaaGreatDoorTN
import Derived.Test.YtfnnapgpcndcjaaGreatDoorTQ
import Derived.Test.YtfnnapgpcndcjaaGreatDoorVc3
import Derived.Test.YtfnnapgpcndcjaaGreatDoorVc9
set_option linter.all false
namespace Go.Am.Z.T
open Go
set_option maxRecDepth 100000
theorem flat_take {α β:Type} (f:α→List β) (l:List α) (k:Nat):((l.take k).flatMap f).length≤(l.flatMap f).length:=take_len_flat f l k
theorem below_tv (g:Nat) (l z:List Th) (cc a b c:Int) (h:Tr l) (hl:l.length≤1000):∀ n:Nat,∀ i:Int,i.toNat≤n→E 21 [.op (0,0) [],iv i] (hT g l z cc a b c) (lvO (below l i)) (hT g l z cc a b c):=by
 intro n
 induction n using Nat.strongRecOn with
 | _ n ih =>
  intro i hn
  refine ev_of (vc21 i g (l++z) l.length cc a b c _ ?_)
  ((repeat apply Exists.intro);refine And.intro (Need.mk (at_ev g l z cc a b c i)) ?_)
  refine ⟨fun h1=>?_,fun h1=>?_⟩
  ·rw [below_out (by simpa using h1)];exact ⟨rfl,rfl⟩
  ·have hi:inR l i=true:=by simpa using h1
   obtain ⟨q1,q2⟩:=tr_below h i hi
   have hs:=tr_size h i
   rw [q1,List.length_append] at hs
   have hkl:=h.kidsN i
   rw [q1]
   have hi':=inR_iff.1 hi
   show _
   refine ⟨fun acc j γ m cc' a' b' c' γ' y=>∃ k:Nat,j=k∧k≤(kidsN l i).length∧acc=((kidsN l i).take k).flatMap (below l)∧γ=(g:Int)∧m=(l.length:Int)∧cc'=cc∧a'=a∧b'=b∧c'=c∧γ'=(g:Int)∧y=l++z,fun _ j _ _ _ _ _ _ _ _=>(((kidsN l i).length:Int)-j).toNat,⟨tr0⟩,⟨0,rfl,by omega,by simp,tr0,tr0,tr0,tr0,tr0,tr0,tr0,tr0⟩,?_⟩
   rintro _ _ _ _ cc a b c _ _ ⟨k,rfl,hk,rfl,rfl,rfl,e1,e2,e3,e4,rfl,rfl⟩
   subst e1 e2 e3 e4
   have hft:=flat_take (below l) (kidsN l i) k
   refine ⟨fun h2=>?_,fun h2=>?_⟩
   ·have h2':(k:Int)<((kidsN l i).length:Int):=of_decide_eq_true h2
    have hk':k<(kidsN l i).length:=by omega
    have hlt:=q2 _ (getD_mem' (0:Int) hk')
    have hft2:=flat_take (below l) (kidsN l i) (k+1)
    rw [take_snoc (0:Int) hk',List.flatMap_append,List.length_append] at hft2
    simp only [List.flatMap_cons,List.flatMap_nil,List.append_nil] at hft2
    refine And.intro (Need.mk ⟨by omega,h2'⟩) ?_
    ((repeat apply Exists.intro);refine And.intro (Need.mk (ih ((kidsN l i).getD k 0).toNat (by omega) ((kidsN l i).getD k 0) (Nat.le_refl _))) ?_)
    refine ⟨⟨by unfold bigN;omega⟩,⟨by omega⟩,⟨tr0⟩,⟨k+1,by omega,by omega,?_,tr0,tr0,tr0,tr0,tr0,tr0,tr0,tr0⟩,⟨by ((try dsimp only);omega)⟩⟩
    rw [take_snoc (0:Int) hk',List.flatMap_append];simp
   ·have h2':¬ (k:Int)<((kidsN l i).length:Int):=of_decide_eq_false h2
    have:k=(kidsN l i).length:=by omega
    subst this
    rw [List.take_length] at hft ⊢
    refine ⟨⟨by simp only [List.length_cons,List.length_nil,bigN] at hs ⊢;omega⟩,tr0⟩
theorem below_ev (g:Nat) (l z:List Th) (cc a b c:Int) (h:Tr l) (hl:l.length≤1000) (i:Int):E 21 [.op (0,0) [],iv i] (hT g l z cc a b c) (lvO (below l i)) (hT g l z cc a b c):=below_tv g l z cc a b c h hl i.toNat i (Nat.le_refl _)
end Go.Am.Z.T
namespace Go.Am.Z.T
open Go
set_option maxRecDepth 100000
end Go.Am.Z.T
