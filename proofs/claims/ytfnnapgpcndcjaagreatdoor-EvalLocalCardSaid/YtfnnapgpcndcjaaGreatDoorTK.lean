/-
  A part of the proof of a law: see the text that states it.
-/
import Derived.Test.YtfnnapgpcndcjaaGreatDoorTJ
import Derived.Test.YtfnnapgpcndcjaaGreatDoorVc9
set_option linter.all false
namespace Go.Am.Z.T
open Go
set_option maxRecDepth 100000
theorem belN_at {l:List Th} {k:Int} (h:inR l k=true):(toR (l.getD k.toNat th0)).2.2.2.2.2.1=belN l k:=by
 have e:atN l k=(l.getD k.toNat th0).1:=by unfold atN;rw [if_pos h]
 unfold belN;rw [e];rfl
theorem rnode_tv (g:Nat) (l:List Th) (a b c rule sym:Int) (ks:List Int) (hb:0≤b) (hab:b≤a) (ha:a≤bigM) (hl:l.length≤999) (hk:ks.length≤1000) :
  ∃ g',E 37 [.op (0,0) [],iv rule,iv sym,lv ks] (hR g (toRL l) a b c) (.tup [iv (nodeR l a b ks).1,iv (nodeR l a b ks).2]) (hR g' (toRL (nodeL l a b rule sym ks)) a (nodeB l a b ks) (nodeC l a b c ks)):=by
 have ha':=ha
 unfold bigM at ha'
 have key:EvF PP orc 37 [.op (0,0) [],iv rule,iv sym,lv ks] (hR g (toRL l) a b c) fun v h'=>∃ g',v=.tup [iv (nodeR l a b ks).1,iv (nodeR l a b ks).2]∧h'=hR g' (toRL (nodeL l a b rule sym ks)) a (nodeB l a b ks) (nodeC l a b c ks):=by
  have same:∀ e:Int,nodeR l a b ks=(0,e)→e≠0→∃ g',(AV.tup [iv 0,iv e])=.tup [iv (nodeR l a b ks).1,iv (nodeR l a b ks).2]∧hR g (toRL l) a b c=hR g' (toRL (nodeL l a b rule sym ks)) a (nodeB l a b ks) (nodeC l a b c ks):=fun e h1 h2=>by
   refine ⟨g,by rw [h1],?_⟩
   simp only [nodeL,nodeB,nodeC,h1,if_neg h2]
  refine vc37 rule sym ks g (toRL l) a b c _ ?_
  refine ⟨fun i γ n a' b' c' γ' y=>∃ k:Nat,i=k∧k≤ks.length∧γ=(g:Int)∧n=((toRL l).length:Int)∧a'=a∧b'=b∧c'=c∧γ'=(g:Int)∧y=toRL l∧inAll l (ks.take k)=true,fun i _ _ _ _ _ _ _=>((ks.length:Int)-i).toNat,⟨tr0⟩,⟨0,rfl,by omega,tr0,tr0,tr0,tr0,tr0,tr0,tr0,rfl⟩,?_⟩
  rintro _ _ _ a b c _ _ ⟨k,rfl,hk1,rfl,rfl,e1,e2,e3,rfl,rfl,hin⟩
  subst e1 e2 e3
  refine ⟨fun h=>?_,fun h=>?_⟩
  ·(simp only [dq1,dq2,dq3,dq4] at h)
   have hk':k<ks.length:=by omega
   have bad:inR l (ks.getD k 0)=false→nodeR l a b ks=(0,2):=fun h=>by
    unfold nodeR
    rw [if_pos]
    simp only [inAll,List.all_eq_false]
    exact ⟨_,getD_mem' _ hk',by simpa using h⟩
   simp only [Int.toNat_natCast,List.length_map]
   refine ⟨⟨by omega⟩,fun h2=>?_,fun h2=>⟨⟨by omega⟩,fun h3=>?_,fun h3=>⟨⟨by omega⟩,⟨tr0⟩,⟨k+1,by omega,by omega,tr0,by simp,tr0,tr0,tr0,tr0,tr0,inAll_take hin hk' ?_⟩,⟨by ((try dsimp only);omega)⟩⟩⟩⟩
   ·(simp only [dq1,dq2,dq3,dq4] at h2)
    obtain ⟨g',q1,q2⟩:=same 2 (bad (by simp [inR] at *;omega)) (by omega)
    exact ⟨g',q1,by rw [← q2];simp⟩
   ·(simp only [dq1,dq2,dq3,dq4] at h2);(simp only [dq1,dq2,dq3,dq4] at h3)
    obtain ⟨g',q1,q2⟩:=same 2 (bad (by simp [inR] at *;omega)) (by omega)
    exact ⟨g',q1,by rw [← q2];simp⟩
   ·(simp only [dq1,dq2,dq3,dq4] at h2);(simp only [dq1,dq2,dq3,dq4] at h3)
    simp [inR] at *;omega
  (simp only [dq1,dq2,dq3,dq4] at h)
  have:k=ks.length:=by omega
  subst this
  rw [List.take_length] at hin
  have inr:∀ k,k<ks.length→0≤ks.getD k 0∧ks.getD k 0<l.length:=fun k hk=>by
   have:=List.all_eq_true.1 hin _ (getD_mem' (0:Int) hk)
   simpa only [inR,Bool.and_eq_true,decide_eq_true_eq] using this
  refine ⟨fun i γ n a' b' c' γ' y=>∃ k:Nat,i=k∧k≤ks.length∧γ=(g:Int)∧n=((toRL l).length:Int)∧a'=a∧b'=b∧c'=c∧γ'=(g:Int)∧y=toRL l∧twF l ks k=false,fun i _ _ _ _ _ _ _=>((ks.length:Int)-i).toNat,⟨tr0⟩,⟨0,rfl,by omega,tr0,by simp,tr0,tr0,tr0,tr0,tr0,rfl⟩,?_⟩
  rintro _ _ _ a b c _ _ ⟨k,rfl,hk1,rfl,rfl,e1,e2,e3,rfl,rfl,htw⟩
  subst e1 e2 e3
  have hR1:∀ n,n≤ks.length→twF l ks n=true→nodeR l a b ks=(0,15):=fun n hn h=>by
   unfold nodeR
   rw [if_neg (by simp [hin]),if_pos (twF_false hn h)]
  refine ⟨fun h=>?_,fun h=>?_⟩
  ·(simp only [dq1,dq2,dq3,dq4] at h)
   have hk':k<ks.length:=by omega
   have hi:=inr k hk'
   have hi2:inR l (ks.getD k 0)=true:=by simp [inR];simpa using hi
   have ex:twF l ks (k+1)=(belN l (ks.getD k 0)||decide (ks.getD k 0∈ks.take k)):=by simp [twF,htw]
   have e7:=toRL_get l (ks.getD k 0).toNat
   have e8:=belN_at hi2
   unfold rn0 at e7
   simp only [Int.toNat_natCast,List.length_map,Nat.zero_add]
   rw [e7,e8]
   refine ⟨⟨by omega⟩,⟨by omega⟩,⟨tr0⟩,⟨by omega⟩,⟨tr0⟩,⟨by omega⟩,fun h2=>?_,fun h2=>?_⟩
   ·obtain ⟨g',q1,q2⟩:=same 15 (hR1 (k+1) (by omega) (by rw [ex,h2];rfl)) (by omega)
    exact ⟨g',q1,by rw [← q2];simp⟩
   ·have ec:cut ks 0 k=ks.take k:=by simp [cut]
    rw [ec]
    refine ⟨⟨by omega,by omega,by omega⟩,⟨by omega⟩,?_⟩
    ((repeat apply Exists.intro);refine And.intro (Need.mk (in_ev (ks.take k) (ks.getD k 0) (by rw [List.length_take];omega))) ?_)
    refine ⟨fun h3=>?_,fun h3=>⟨⟨by omega⟩,⟨tr0⟩,⟨k+1,by omega,by omega,tr0,by simp,tr0,tr0,tr0,tr0,tr0,?_⟩,⟨by ((try dsimp only);omega)⟩⟩⟩
    ·obtain ⟨g',q1,q2⟩:=same 15 (hR1 (k+1) (by omega) (by rw [ex,h2];simpa using h3)) (by omega)
     exact ⟨g',q1,by rw [← q2];simp⟩
    ·rw [ex,h2];simpa using h3
  (simp only [dq1,dq2,dq3,dq4] at h)
  have:k=ks.length:=by omega
  subst this
  refine And.intro (Need.mk ⟨by omega,by omega⟩) ?_
  ((repeat apply Exists.intro);refine And.intro (Need.mk (rtake_ev a b c (1+(ks.length:Int)) hb hab ha)) ?_)
  have e0:takeR a b (1+(ks.length:Int))=if a-b<1+(ks.length:Int) then 5 else 0:=by unfold takeR;rw [if_neg (by omega)]
  by_cases hq:a-b<1+(ks.length:Int)
  ·rw [if_pos hq] at e0
   refine ⟨fun h2=>?_,fun h2=>by simp [e0] at h2⟩
   have hR:nodeR l a b ks=(0,5):=by
    unfold nodeR
    rw [if_neg (by simp [hin]),if_neg (by simp [htw]),if_pos hq]
   obtain ⟨g',q1,q2⟩:=same 5 hR (by omega)
   rw [e0]
   exact ⟨g',q1,by rw [← q2];simp [takeB,takeC,e0]⟩
  rw [if_neg hq] at e0
  have hR:nodeR l a b ks=((l.length:Int),0):=by
   unfold nodeR
   rw [if_neg (by simp [hin]),if_neg (by simp [htw]),if_neg hq]
  refine ⟨fun h2=>by simp [e0] at h2,fun _=>?_⟩
  simp only [takeB,takeC,e0,if_true]
  refine ⟨fun i γ n a' b' c' γ' y=>∃ k:Nat,i=k∧k≤ks.length∧γ=(g:Int)∧n=(l.length:Int)∧a'=a∧b'=b+(1+(ks.length:Int))∧c'=max c (b+(1+(ks.length:Int)))∧γ'=(g:Int)∧y=toRL (markN l (ks.take k)),fun i _ _ _ _ _ _ _=>((ks.length:Int)-i).toNat,⟨tr0⟩,⟨0,rfl,by omega,tr0,by simp,tr0,tr0,tr0,tr0,by simp [markN]⟩,?_⟩
  rintro _ _ _ a' b' c' _ _ ⟨k,rfl,hk1,rfl,rfl,rfl,rfl,rfl,rfl,rfl⟩
  have hml:(markN l (ks.take k)).length=l.length:=markN_len _ _
  refine ⟨fun h2=>?_,fun h2=>?_⟩
  ·(simp only [dq1,dq2,dq3,dq4] at h2)
   have hk':k<ks.length:=by omega
   have hi:=inr k hk'
   have hi2:inR (markN l (ks.take k)) (ks.getD k 0)=true:=by simp only [inR,hml,Bool.and_eq_true,decide_eq_true_eq];exact hi
   have e9:=toRL_set hi2
   unfold rn0 setBelR at e9
   simp only [Int.toNat_natCast,List.length_map,Nat.zero_add,hml]
   refine ⟨⟨by omega⟩,⟨by omega⟩,⟨tr0⟩,⟨by omega⟩,⟨tr0⟩,⟨by omega⟩,⟨by omega⟩,⟨by simp [hml]⟩,⟨k+1,by omega,by omega,tr0,tr0,tr0,tr0,tr0,tr0,?_⟩,⟨by ((try dsimp only);omega)⟩⟩
   rw [take_snoc (0:Int) hk',markN_snoc,e9]
  ·(simp only [dq1,dq2,dq3,dq4] at h2)
   have:k=ks.length:=by omega
   subst this
   rw [List.take_length] at hml ⊢
   have e0:nodeL l a' b rule sym ks=markN (l++[nodeT rule sym ks]) ks:=by simp [nodeL,hR]
   have e1:nodeB l a' b ks=b+(1+(ks.length:Int)):=by simp [nodeB,hR]
   have e2:nodeC l a' b c ks=max c (b+(1+(ks.length:Int))):=by simp [nodeC,hR]
   simp only [Int.toNat_natCast,List.length_map,hml]
   have et:List.take l.length (toRL (markN l ks))=toRL (markN l ks):=List.take_of_length_le (by simp [hml])
   rw [et]
   refine ⟨⟨by unfold bigN;omega⟩,⟨by simp only [List.length_cons,List.length_nil,bigN];exact ⟨tr0,by omega,by omega,by omega⟩⟩,⟨by simp only [List.length_cons,List.length_nil];omega⟩,g+1,?_,?_⟩
   ·rw [hR]
    simp
   ·rw [e0,e1,e2,markN_app _ _ _ hin]
    refine hR_eq (by simp [hml]) (by simp [toR]) (by simp [hml])
 obtain ⟨v,h',e,g',rfl,rfl⟩:=key
 exact ⟨g',e⟩
end Go.Am.Z.T
