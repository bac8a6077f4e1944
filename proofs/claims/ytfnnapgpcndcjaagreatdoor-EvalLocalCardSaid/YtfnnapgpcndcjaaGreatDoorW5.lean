/-
  A part of the proof of a law: see the text that states it.
-/
import Derived.Test.YtfnnapgpcndcjaaGreatDoorW2
import Derived.Test.YtfnnapgpcndcjaaGreatDoorTU
import Derived.Test.YtfnnapgpcndcjaaGreatDoorVcB
set_option linter.all false
namespace Go.Am.Z.W
open Go Go.Am.Z.T Go.Am.Z.V
set_option maxRecDepth 100000
abbrev FF (acts:List (List Op2)) (text:List Int) (l:List Th):Int→List Val→Val:=valF acts text l
def mapQ (acts:List (List Op2)) (text:List Int) (l:List Th) (root:Int):Nat→List (Int×Val)
 | 0=>[]
 | q+1=>Pr.mset (mapQ acts text l root q) ((T.below l root).getD q 0) (FF acts text l ((T.below l root).getD q 0) ((kidsN l ((T.below l root).getD q 0)).map fun k=>Pr.mget (mapQ acts text l root q) k V0))
theorem mapQ_told {acts:List (List Op2)} {text:List Int} {l:List Th} (h:Tr l) {root:Int} (hr:inR l root=true):∀ q,q≤(T.below l root).length→T.Told (FF acts text l) V0 l root q (mapQ acts text l root q)
 | 0,_=>.zero _ _ _ _
 | q+1,hq=>(mapQ_told h hr q (by omega)).step h hr (by omega)
abbrev costQ (acts:List (List Op2)) (l:List Th) (root:Int) (q:Nat):Nat:=costG (costN acts l) l root q
theorem opsN_le {acts:List (List Op2)} (h:∀ o∈acts,o.length≤1000) (l:List Th) (i:Int):(opsN acts l i).length≤1000:=by
 unfold opsN
 split
 ·exact h _ (getD_mem' _ (by omega))
 ·simp
abbrev hEv (fa fb fc:Int) (g:Nat) (l z:List Th) (cc a b c:Int):Heap:=[oT (0,0) (0,2),oM (0,1) fa fb fc,oA (0,2) (0,3) (0,4) g l.length cc,oM (0,3) a b c,oL (0,4) g (l++z)]
structure Ran (acts:List (List Op2)) (text:List Int) (l:List Th) (root fa:Int) (v:Val) (e fb:Int):Prop where
 no:T.below l root=[]→v=V0∧e=2∧fb=0
 ok:T.below l root≠[]→(costQ acts l root (T.below l root).length:Int)≤fa→v=treeN (FF acts text l) V0 l root∧e=0∧fb=costQ acts l root (T.below l root).length
 few:T.below l root≠[]→fa<(costQ acts l root (T.below l root).length:Int)→v=V0∧e=5∧fb≤fa
theorem drop_ne {B:List Int} {q:Nat} (h:q<B.length):B.drop q=B.getD q 0::B.drop (q+1):=drop_cons (0:Int) h
theorem eval_ev (acts:List (List Op2)) (text:List Int) (root fa:Int) (g:Nat) (l z:List Th) (cc a b c:Int) (h:Tr l) (hl:l.length≤1000) (ht:Byts text) (htl:text.length≤1000) (hA:∀ o∈acts,o.length≤1000) (hf0:0≤fa) (hfa:fa≤bigM) :
  ∃ v e fb fc,Ran acts text l root fa v e fb∧E 14 [.op (0,0) [],iv root,.tv [] (.slice (.slice tV)) acts,.tv [] .str text,.op (0,1) []] (hEv fa 0 0 g l z cc a b c) (.tup [.tv [] tV v,iv e]) (hEv fa fb fc g l z cc a b c):=by
 have key:EvF PP orc 14 [.op (0,0) [],iv root,.tv [] (.slice (.slice tV)) acts,.tv [] .str text,.op (0,1) []] (hEv fa 0 0 g l z cc a b c) fun av h'=>∃ v e fb fc,Ran acts text l root fa v e fb∧av=.tup [.tv [] tV v,iv e]∧h'=hEv fa fb fc g l z cc a b c:=by
  have hB:(T.below l root).length≤1000:=Nat.le_trans (tr_size h root) hl
  refine vc14 root acts text fa 0 0 g (l++z) l.length cc a b c _ ?_
  ((repeat apply Exists.intro);refine And.intro (Need.mk (new_ev acts text g l z cc a b c root fa 0 0 h hl)) ?_)
  refine ⟨fun m todo t2 t3 t4 ended e st t8 fb fc t12 t13 t14 t15 t16 t17 t18 t19=>∃ q:Nat,m=mapQ acts text l root q∧todo=(T.below l root).drop q∧t2=acts∧t3=text∧t4=root∧ended=decide (T.below l root=[])∧e=(if T.below l root=[] then 2 else 0)∧st=q∧t8=fa∧fb=(costQ acts l root q:Int)∧t12=(g:Int)∧t13=(l.length:Int)∧t14=cc∧t15=a∧t16=b∧t17=c∧t18=(g:Int)∧t19=l++z∧(T.below l root=[]∧q=0∨q<(T.below l root).length)∧(costQ acts l root q:Int)≤fa,
   fun _ todo _ _ _ _ _ _ _ _ _ _ _ _ _ _ _ _ _=>todo.length,⟨tr0⟩,⟨0,tr0,tr0,tr0,tr0,tr0,tr0,tr0,tr0,tr0,tr0,tr0,tr0,tr0,tr0,tr0,tr0,tr0,tr0,?_,by simpa [costG] using hf0⟩,?_⟩
  ·by_cases hb:T.below l root=[]
   ·exact .inl ⟨hb,rfl⟩
   ·exact .inr (List.length_pos_iff.2 hb)
  rintro _ _ t2 t3 t4 _ _ _ t8 _ fc _ _ t14 t15 t16 t17 _ t19 ⟨q,rfl,rfl,e2,e3,e4,rfl,rfl,rfl,e8,rfl,rfl,rfl,e14,e15,e16,e17,rfl,e19,hq,hc⟩
  subst e2 e3 e4 e8 e14 e15 e16 e17 e19
  rcases hq with ⟨hb,rfl⟩ | hq
  ·have c1:=step_end ((T.below l t4).drop 0) t2 t3 t4 2 0 t8 0 fc (mapQ t2 t3 l t4 0) g l z t14 t15 t16 t17
   have c2:=Value_ev ((T.below l t4).drop 0) t2 t3 t4 true 2 0 t8 0 fc (mapQ t2 t3 l t4 0) g l z t14 t15 t16 t17
   have hd:decide (T.below l t4=[])=true:=decide_eq_true hb
   have hz:costQ t2 l t4 0=0:=by simp [costG]
   simp only [hd,if_pos hb,hz]
   ((repeat apply Exists.intro);refine And.intro (Need.mk (c1)) ?_)
   refine ⟨fun h1=>by simp at h1,fun _=>?_⟩
   ((repeat apply Exists.intro);refine And.intro (Need.mk (c2)) ?_)
   refine ⟨V0,2,0,fc,⟨fun _=>⟨rfl,rfl,rfl⟩,fun h1=>absurd hb h1,fun h1=>absurd hb h1⟩,rfl,rfl⟩
  ·have hne:T.below l t4≠[]:=fun q=>by rw [q] at hq;simp at hq
   have hd:decide (T.below l t4=[])=false:=decide_eq_false hne
   have hdr:=drop_ne hq
   have hr:inR l t4=true:=by
    cases hx:inR l t4 with
    | true=>rfl
    | false=>exact absurd (below_out hx) hne
   have c1:=step_ev t2 t3 t4 0 (q:Int) t8 (costQ t2 l t4 q:Int) fc (mapQ t2 t3 l t4 q) g l z t14 t15 t16 t17 ((T.below l t4).getD q 0) ((T.below l t4).drop (q+1)) (h.kidsN _) ht htl (opsN_le hA _ _) (by omega) hc hfa ⟨by omega,by omega⟩
   have hs:costQ t2 l t4 (q+1)=costQ t2 l t4 q+costN t2 l ((T.below l t4).getD q 0):=costG_succ hq
   simp only [hd,if_neg hne]
   rw [hdr]
   unfold stepH at c1
   by_cases hlt:t8-(costQ t2 l t4 q:Int)<(costN t2 l ((T.below l t4).getD q 0):Int)
   ·rw [if_pos hlt] at c1
    ((repeat apply Exists.intro);refine And.intro (Need.mk (c1)) ?_)
    refine ⟨fun h1=>by simp at h1,fun _=>?_⟩
    ((repeat apply Exists.intro);refine And.intro (Need.mk (Value_ev ((T.below l t4).getD q 0::(T.below l t4).drop (q+1)) t2 t3 t4 true 5 ((q:Int)+1) t8 (costQ t2 l t4 q:Int) fc (mapQ t2 t3 l t4 q) g l z t14 t15 t16 t17)) ?_)
    have hmono:costQ t2 l t4 (q+1)≤costQ t2 l t4 (T.below l t4).length:=costG_mono (by omega)
    exact ⟨V0,5,_,fc,⟨fun h1=>absurd h1 hne,fun _ h1=>by omega,fun _ _=>⟨rfl,rfl,hc⟩⟩,rfl,rfl⟩
   ·rw [if_neg hlt] at c1
    have hcost:(costQ t2 l t4 q:Int)+(costN t2 l ((T.below l t4).getD q 0):Int)=(costQ t2 l t4 (q+1):Int):=by omega
    rw [hcost] at c1
    ((repeat apply Exists.intro);refine And.intro (Need.mk (c1)) ?_)
    refine ⟨fun h1=>?_,fun h1=>?_⟩
    ·have hn:(T.below l t4).drop (q+1)≠[]:=by simpa using h1
     have hq1:q+1<(T.below l t4).length:=by
      apply Classical.byContradiction;intro hx
      exact hn (List.drop_eq_nil_of_le (by omega))
     refine And.intro (Need.mk tr0) (And.intro ⟨q+1,tr0,tr0,tr0,tr0,tr0,decide_eq_false hn,tr0,tr0,tr0,tr0,tr0,tr0,tr0,tr0,tr0,tr0,tr0,tr0,.inr hq1,by omega⟩ (Need.mk ?_))
     simp only [List.length_cons];omega
    ·have hn:(T.below l t4).drop (q+1)=[]:=by simpa using h1
     have hq1:q+1=(T.below l t4).length:=by
      have:=congrArg List.length hn
      simp only [List.length_drop,List.length_nil] at this;omega
     have hdn:decide ((T.below l t4).drop (q+1)=[])=true:=decide_eq_true hn
     rw [hdn]
     ((repeat apply Exists.intro);refine And.intro (Need.mk (Value_ev ((T.below l t4).drop (q+1)) t2 t3 t4 true 0 ((q:Int)+1) t8 (costQ t2 l t4 (q+1):Int) (max fc (costQ t2 l t4 (q+1):Int)) (mapQ t2 t3 l t4 (q+1)) g l z t14 t15 t16 t17)) ?_)
     have hv:resM true 0 (mapQ t2 t3 l t4 (q+1)) t4=treeN (FF t2 t3 l) V0 l t4:=by
      unfold resM
      rw [if_pos ⟨rfl,rfl⟩]
      have:=mapQ_told (acts:=t2) (text:=t3) h hr (q+1) (by omega)
      rw [hq1] at this ⊢
      exact this.root h hr
     refine ⟨_,0,_,_,⟨fun h1=>absurd h1 hne,fun _ _=>⟨hv,rfl,by rw [hq1]⟩,fun _ h1=>by rw [← hq1] at h1;omega⟩,rfl,rfl⟩
 obtain ⟨av,h',e,v,ec,fb,fc,hR,rfl,rfl⟩:=key
 exact ⟨v,ec,fb,fc,hR,e⟩
end Go.Am.Z.W
namespace Go.Am.Z.W
open Go Go.Am.Z.T Go.Am.Z.V
set_option maxRecDepth 100000
abbrev X0:XT:=.mk 0 0 []
structure OkX (x:XT):Prop where
 rt:V.right x=true
 sz:sizeN x≤1000
theorem OkX.zero:OkX X0:=⟨by simp [V.right,XT.kind,XT.num,XT.kids],by simp [sizeN,sizeNL]⟩
def actX (xs:List XT) (r:Int):XT:=if 0≤r∧r<xs.length then xs.getD r.toNat X0 else X0
theorem act_ev (xs:List XT) (r:Int):E 44 [.tv [] (.slice .expr) xs,iv r] [] (.tv [] .expr (actX xs r)) []:=by
 refine ev_of (vc44 xs r _ ⟨fun h=>?_,fun h=>⟨fun h2=>?_,fun h2=>⟨⟨?_⟩,?_⟩⟩⟩)
 ·(simp only [dq1,dq2,dq3,dq4] at h);have:actX xs r=X0:=by unfold actX;rw [if_neg (by omega)]
  rw [this];exact ⟨rfl,rfl⟩
 ·(simp only [dq1,dq2,dq3,dq4] at h2);have:actX xs r=X0:=by unfold actX;rw [if_neg (by omega)]
  rw [this];exact ⟨rfl,rfl⟩
 ·(simp only [dq1,dq2,dq3,dq4] at h);(simp only [dq1,dq2,dq3,dq4] at h2);omega
 ·(simp only [dq1,dq2,dq3,dq4] at h);(simp only [dq1,dq2,dq3,dq4] at h2);have:actX xs r=xs.getD r.toNat X0:=by unfold actX;rw [if_pos (by omega)]
  rw [this];exact ⟨rfl,rfl⟩
theorem ops_act (xs:List XT) (l:List Th) (i:Int):opsN (xs.map comp) l i=comp (actX xs (ruleN l i)):=by
 unfold opsN actX
 rw [List.length_map]
 split
 ·rename_i h
  exact map_getD comp xs _ X0 [] (by omega)
 ·rfl
theorem acts_le {xs:List XT} (h:∀ x∈xs,OkX x):∀ o∈xs.map comp,o.length≤1000:=fun o ho=>by
 obtain ⟨x,hx,rfl⟩:=List.mem_map.1 ho
 exact Nat.le_trans (comp_len x) (h x hx).sz
theorem costN_eq (xs:List XT) (l:List Th) (i:Int):costN (xs.map comp) l i=if leafN l i=true then 1 else 1+(comp (actX xs (ruleN l i))).length:=by unfold costN;rw [ops_act]
end Go.Am.Z.W
namespace Go.Am.Z.W
open Go Go.Am.Z.T Go.Am.Z.V
set_option maxRecDepth 100000
section
variable {xs:List XT} {text:List Int} {l:List Th}
end
end Go.Am.Z.W
