/-
  A part of the proof of a law: see the text that states it.
-/
import Derived.Test.YtfnnapgpcndcjaaGreatDoorW1
set_option linter.all false
namespace Go.Am.Z.W
open Go Go.Am.Z.T Go.Am.Z.V
set_option maxRecDepth 100000
section
variable (todo:List Int) (acts:List (List Op2)) (text:List Int) (root:Int) (ended:Bool) (e st fa fb fc:Int) (m:List (Int×Val)) (g:Nat) (l z:List Th) (cc a b c:Int) (i:Int) (r:List Int)
theorem steps_ev:E 23 [.op (0,0) []] (hMc todo acts text root ended e st fa fb fc m g l z cc a b c) (iv st) (hMc todo acts text root ended e st fa fb fc m g l z cc a b c) :=
 ev_of (vc23 todo acts text root ended e st fa fb fc m g (l++z) l.length cc a b c _ ⟨rfl,rfl⟩)
def resM (ended:Bool) (e:Int) (m:List (Int×Val)) (root:Int):Val:=if ended=true∧e=0 then Pr.mget m root V0 else V0
theorem Value_ev:E 22 [.op (0,0) []] (hMc todo acts text root ended e st fa fb fc m g l z cc a b c) (.tup [.tv [] tV (resM ended e m root),iv e]) (hMc todo acts text root ended e st fa fb fc m g l z cc a b c):=by
 refine ev_of (vc22 todo acts text root ended e st fa fb fc m g (l++z) l.length cc a b c _ ⟨fun h=>?_,fun h=>⟨fun h2=>?_,fun h2=>?_⟩⟩)
 ·have h':ended=false:=by simpa using h
  subst h';exact ⟨rfl,rfl⟩
 ·(simp only [dq1,dq2,dq3,dq4] at h2)
  have:resM ended e m root=V0:=by unfold resM;rw [if_neg fun q=>h2 q.2]
  rw [this];exact ⟨rfl,rfl⟩
 ·have h':ended=true:=by simpa using h
  have h2':e=0:=by simpa using h2
  subst h' h2'
  exact ⟨rfl,rfl⟩
theorem new_ev (fa fb fc:Int) (h:Tr l) (hl:l.length≤1000):E 20 [.op (0,0) [],iv i,.tv [] (.slice (.slice tV)) acts,.tv [] .str text,.op (0,1) []] [oT (0,0) (0,2),oM (0,1) fa fb fc,oA (0,2) (0,3) (0,4) g l.length cc,oM (0,3) a b c,oL (0,4) g (l++z)]
  (.op (1,0) []) [oMc (1,0) (0,0) (0,1) (1,1) (T.below l i) acts text i (decide (T.below l i=[])) (if T.below l i=[] then 2 else 0) 0,oMp (1,1) [],oT (0,0) (0,2),oM (0,1) fa fb fc,oA (0,2) (0,3) (0,4) g l.length cc,oM (0,3) a b c,oL (0,4) g (l++z)]:=by
 refine ev_of (vc20 i acts text fa fb fc g (l++z) l.length cc a b c _ ?_)
 ((repeat apply Exists.intro);refine And.intro (Need.mk (below_ev g l z cc a b c h hl i)) ?_)
 refine ⟨fun h=>?_,fun h=>?_⟩
 ·(simp only [dq1,dq2,dq3,dq4] at h)
  have:T.below l i=[]:=List.eq_nil_of_length_eq_zero (by omega)
  rw [this];exact ⟨rfl,rfl⟩
 ·(simp only [dq1,dq2,dq3,dq4] at h)
  have:T.below l i≠[]:=fun q=>h (by rw [q];rfl)
  simp only [if_neg this,decide_eq_false this]
  exact ⟨tr0,tr0⟩
theorem step_end:E 24 [.op (0,0) []] (hMc todo acts text root true e st fa fb fc m g l z cc a b c) (bv true) (hMc todo acts text root true e st fa fb fc m g l z cc a b c) :=
 ev_of (vc24 todo acts text root true e st fa fb fc m g (l++z) l.length cc a b c _ ⟨fun _=>⟨rfl,rfl⟩,fun h=>by cases h⟩)
def stepH:Bool×Heap:=if fa-fb<(costN acts l i:Int) then (true,hMc (i::r) acts text root true 5 (st+1) fa fb fc m g l z cc a b c)
 else (decide (r=[]),hMc r acts text root (decide (r=[])) e (st+1) fa (fb+(costN acts l i:Int)) (max fc (fb+(costN acts l i:Int))) (Pr.mset m i (valF acts text l i ((kidsN l i).map fun k=>Pr.mget m k V0))) g l z cc a b c)
theorem step_ev (hk:(kidsN l i).length≤1000) (ht:Byts text) (hl:text.length≤1000) (ho:(opsN acts l i).length≤1000) (hb:0≤fb) (hab:fb≤fa) (ha:fa≤bigM) (hs:0≤st∧st≤1000) :
  E 24 [.op (0,0) []] (hMc (i::r) acts text root false e st fa fb fc m g l z cc a b c) (bv (stepH acts text root e st fa fb fc m g l z cc a b c i r).1) (stepH acts text root e st fa fb fc m g l z cc a b c i r).2:=by
 have tk:=take_ev fa fb fc (costN acts l i) hb hab ha
 have hcut:cut (i::r) 1 (Int.toNat ((List.length (i::r):Nat):Int))=r:=by
  unfold cut;rw [Int.toNat_natCast,List.take_of_length_le (Nat.le_refl _)];rfl
 have hdec:decide (((List.length r:Nat):Int)=0)=decide (r=[]):=by cases r <;> simp <;> omega
 refine ev_of (vc24 (i::r) acts text root false e st fa fb fc m g (l++z) l.length cc a b c _ ⟨fun h=>(by cases h),fun _=>And.intro (Need.mk (by omega)) (And.intro (Need.mk (by simp only [List.length_cons];omega)) ?_)⟩)
 have hi0:List.getD (i::r) 0 (0:Int)=i:=rfl
 rw [hi0]
 ((repeat apply Exists.intro);refine And.intro (Need.mk (leaf_tv g l z cc a b c i)) ?_)
 refine ⟨fun h1=>?_,fun h1=>?_⟩
 ·have h1':leafN l i=false:=by simpa using h1
  have ec:((costN acts l i:Nat):Int)=1+((opsN acts l i).length:Int):=by unfold costN;rw [h1'];simp
  rcases ops_ev (i::r) acts text root false e (st+1) fa fb fc m g l z cc a b c i with ho1 | ho1
  ·refine .inl ?_
   ((repeat apply Exists.intro);refine And.intro (Need.mk (ho1)) ?_)
   refine And.intro (Need.mk (by omega)) ?_
   rw [← ec]
   ((repeat apply Exists.intro);refine And.intro (Need.mk (tk)) ?_)
   refine ⟨fun h5=>?_,fun h5=>?_⟩
   ·(simp only [dq1,dq2,dq3,dq4] at h5)
    have hlt:fa-fb<(costN acts l i:Int):=by
     apply Classical.byContradiction;intro hn
     exact h5 (by unfold takeR;rw [if_neg (by omega),if_neg hn])
    have e1:takeR fa fb (costN acts l i)=5:=by unfold takeR;rw [if_neg (by omega),if_pos hlt]
    unfold stepH
    rw [if_pos hlt]
    simp only [e1,takeB,takeC]
    exact ⟨tr0,tr0⟩
   ·(simp only [dq1,dq2,dq3,dq4] at h5)
    have hge:¬ fa-fb<(costN acts l i:Int):=fun hn=>by
     have e1:takeR fa fb (costN acts l i)=5:=by unfold takeR;rw [if_neg (by omega),if_pos hn]
     omega
    have e1:takeR fa fb (costN acts l i)=0:=by unfold takeR;rw [if_neg (by omega),if_neg hge]
    ((repeat apply Exists.intro);refine And.intro (Need.mk (value_ev (i::r) acts text root false e (st+1) fa (takeB fa fb (costN acts l i)) (takeC fa fb fc (costN acts l i)) m g l z cc a b c i hk ht hl ho)) ?_)
    refine And.intro (Need.mk rfl) (And.intro (Need.mk (by simp only [List.length_cons];omega)) ?_)
    unfold stepH
    rw [if_neg hge]
    simp only [e1,takeB,takeC,if_true,hcut,hdec]
    exact ⟨tr0,tr0⟩
  ·refine .inr ?_
   ((repeat apply Exists.intro);refine And.intro (Need.mk (ho1)) ?_)
   refine And.intro (Need.mk (by omega)) ?_
   rw [← ec]
   ((repeat apply Exists.intro);refine And.intro (Need.mk (tk)) ?_)
   refine ⟨fun h5=>?_,fun h5=>?_⟩
   ·(simp only [dq1,dq2,dq3,dq4] at h5)
    have hlt:fa-fb<(costN acts l i:Int):=by
     apply Classical.byContradiction;intro hn
     exact h5 (by unfold takeR;rw [if_neg (by omega),if_neg hn])
    have e1:takeR fa fb (costN acts l i)=5:=by unfold takeR;rw [if_neg (by omega),if_pos hlt]
    unfold stepH
    rw [if_pos hlt]
    simp only [e1,takeB,takeC]
    exact ⟨tr0,tr0⟩
   ·(simp only [dq1,dq2,dq3,dq4] at h5)
    have hge:¬ fa-fb<(costN acts l i:Int):=fun hn=>by
     have e1:takeR fa fb (costN acts l i)=5:=by unfold takeR;rw [if_neg (by omega),if_pos hn]
     omega
    have e1:takeR fa fb (costN acts l i)=0:=by unfold takeR;rw [if_neg (by omega),if_neg hge]
    ((repeat apply Exists.intro);refine And.intro (Need.mk (value_ev (i::r) acts text root false e (st+1) fa (takeB fa fb (costN acts l i)) (takeC fa fb fc (costN acts l i)) m g l z cc a b c i hk ht hl ho)) ?_)
    refine And.intro (Need.mk rfl) (And.intro (Need.mk (by simp only [List.length_cons];omega)) ?_)
    unfold stepH
    rw [if_neg hge]
    simp only [e1,takeB,takeC,if_true,hcut,hdec]
    exact ⟨tr0,tr0⟩
 ·have h1':leafN l i=true:=by simpa using h1
  have ec:((costN acts l i:Nat):Int)=1:=by unfold costN;rw [h1'];simp
  have tk1:E 50 [.op (0,0) [],iv 1] (hM fa fb fc) (iv (takeR fa fb (costN acts l i))) (hM fa (takeB fa fb (costN acts l i)) (takeC fa fb fc (costN acts l i))) :=
   (congrArg (fun q=>E 50 [.op (0,0) [],iv q] (hM fa fb fc) (iv (takeR fa fb (costN acts l i))) (hM fa (takeB fa fb (costN acts l i)) (takeC fa fb fc (costN acts l i)))) ec).mp tk
  ((repeat apply Exists.intro);refine And.intro (Need.mk (tk1)) ?_)
  refine ⟨fun h5=>?_,fun h5=>?_⟩
  ·(simp only [dq1,dq2,dq3,dq4] at h5)
   have hlt:fa-fb<(costN acts l i:Int):=by
    apply Classical.byContradiction;intro hn
    exact h5 (by unfold takeR;rw [if_neg (by omega),if_neg hn])
   have e1:takeR fa fb (costN acts l i)=5:=by unfold takeR;rw [if_neg (by omega),if_pos hlt]
   unfold stepH
   rw [if_pos hlt]
   simp only [e1,takeB,takeC]
   exact ⟨tr0,tr0⟩
  ·(simp only [dq1,dq2,dq3,dq4] at h5)
   have hge:¬ fa-fb<(costN acts l i:Int):=fun hn=>by
    have e1:takeR fa fb (costN acts l i)=5:=by unfold takeR;rw [if_neg (by omega),if_pos hn]
    omega
   have e1:takeR fa fb (costN acts l i)=0:=by unfold takeR;rw [if_neg (by omega),if_neg hge]
   ((repeat apply Exists.intro);refine And.intro (Need.mk (value_ev (i::r) acts text root false e (st+1) fa (takeB fa fb (costN acts l i)) (takeC fa fb fc (costN acts l i)) m g l z cc a b c i hk ht hl ho)) ?_)
   refine And.intro (Need.mk rfl) (And.intro (Need.mk (by simp only [List.length_cons];omega)) ?_)
   unfold stepH
   rw [if_neg hge]
   simp only [e1,takeB,takeC,if_true,hcut,hdec]
   exact ⟨tr0,tr0⟩
end
end Go.Am.Z.W
