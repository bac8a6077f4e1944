/-
  A part of the proof of a law: see the text that states it.
-/
import Derived.Test.YtfnnapgpcndcjaaGreatDoorW2
import Derived.Test.YtfnnapgpcndcjaaGreatDoorTU
import Derived.Test.YtfnnapgpcndcjaaGreatDoorVcB
set_option linter.all false
namespace Go.Am.Z.W
open Go Go.Am.Z.T Go.Am.Z.V
set_option maxRecDepth 100000
abbrev FF (acts:List (List Op2)) (text:List Int) (l:List Th):Int→List Val→Val:=valF acts text l
def mapQ (acts:List (List Op2)) (text:List Int) (l:List Th) (root:Int):Nat→List (Int×Val)
 | 0=>[]
 | q+1=>Pr.mset (mapQ acts text l root q) ((T.below l root).getD q 0) (FF acts text l ((T.below l root).getD q 0) ((kidsN l ((T.below l root).getD q 0)).map fun k=>Pr.mget (mapQ acts text l root q) k V0))
theorem mapQ_told {acts:List (List Op2)} {text:List Int} {l:List Th} (h:Tr l) {root:Int} (hr:inR l root=true):∀ q,q≤(T.below l root).length→T.Told (FF acts text l) V0 l root q (mapQ acts text l root q)
 | 0,_=>.zero _ _ _ _
 | q+1,hq=>(mapQ_told h hr q (by omega)).step h hr (by omega)
abbrev costQ (acts:List (List Op2)) (l:List Th) (root:Int) (q:Nat):Nat:=costG (costN acts l) l root q
theorem opsN_le {acts:List (List Op2)} (h:∀ o∈acts,o.length≤1000) (l:List Th) (i:Int):(opsN acts l i).length≤1000:=by
 unfold opsN
 split
 ·exact h _ (getD_mem' _ (by omega))
 ·simp
abbrev hEv (fa fb fc:Int) (g:Nat) (l z:List Th) (cc a b c:Int):Heap:=[oT (0,0) (0,2),oM (0,1) fa fb fc,oA (0,2) (0,3) (0,4) g l.length cc,oM (0,3) a b c,oL (0,4) g (l++z)]
structure Ran (acts:List (List Op2)) (text:List Int) (l:List Th) (root fa:Int) (v:Val) (e fb:Int):Prop where
 no:T.below l root=[]→v=V0∧e=2∧fb=0
 ok:T.below l root≠[]→(costQ acts l root (T.below l root).length:Int)≤fa→v=treeN (FF acts text l) V0 l root∧e=0∧fb=costQ acts l root (T.below l root).length
 few:T.below l root≠[]→fa<(costQ acts l root (T.below l root).length:Int)→v=V0∧e=5∧fb≤fa
theorem drop_ne {B:List Int} {q:Nat} (h:q<B.length):B.drop q=B.getD q 0::B.drop (q+1):=drop_cons (0:Int) h
theorem eval_ev (acts:List (List Op2)) (text:List Int) (root fa:Int) (g:Nat) (l z:List Th) (cc a b c:Int) (h:Tr l) (hl:l.length≤1000) (ht:Byts text) (htl:text.length≤1000) (hA:∀ o∈acts,o.length≤1000) (hf0:0≤fa) (hfa:fa≤bigM) :
  ∃ v e fb fc,Ran acts text l root fa v e fb∧E 14 [.op (0,0) [],iv root,.tv [] (.slice (.slice tV)) acts,.tv [] .str text,.op (0,1) []] (hEv fa 0 0 g l z cc a b c) (.tup [.tv [] tV v,iv e]) (hEv fa fb fc g l z cc a b c):=by
 have key:EvF PP orc 14 [.op (0,0) [],iv root,.tv [] (.slice (.slice tV)) acts,.tv [] .str text,.op (0,1) []] (hEv fa 0 0 g l z cc a b c) fun av h'=>∃ v e fb fc,Ran acts text l root fa v e fb∧av=.tup [.tv [] tV v,iv e]∧h'=hEv fa fb fc g l z cc a b c:=by
  have hB:(T.below l root).length≤1000:=Nat.le_trans (tr_size h root) hl
  refine vc14 root acts text fa 0 0 g (l++z) l.length cc a b c _ ?_
  ((repeat apply Exists.intro);refine And.intro (Need.mk (new_ev acts text g l z cc a b c root fa 0 0 h hl)) ?_)
  refine ⟨fun m todo t2 t3 t4 ended e st t8 fb fc t12 t13 t14 t15 t16 t17 t18 t19=>∃ q:Nat,m=mapQ acts text l root q∧todo=(T.below l root).drop q∧t2=acts∧t3=text∧t4=root∧ended=decide (T.below l root=[])∧e=(if T.below l root=[] then 2 else 0)∧st=q∧t8=fa∧fb=(costQ acts l root q:Int)∧t12=(g:Int)∧t13=(l.length:Int)∧t14=cc∧t15=a∧t16=b∧t17=c∧t18=(g:Int)∧t19=l++z∧(T.below l root=[]∧q=0∨q<(T.below l root).length)∧(costQ acts l root q:Int)≤fa,
   fun _ todo _ _ _ _ _ _ _ _ _ _ _ _ _ _ _ _ _=>todo.length,⟨tr0⟩,⟨0,tr0,tr0,tr0,tr0,tr0,tr0,tr0,tr0,tr0,tr0,tr0,tr0,tr0,tr0,tr0,tr0,tr0,tr0,?_,by simpa [costG] using hf0⟩,?_⟩
  ·by_cases hb:T.below l root=[]
   ·exact .inl ⟨hb,rfl⟩
   ·exact .inr (List.length_pos_iff.2 hb)
  rintro _ _ t2 t3 t4 _ _ _ t8 _ fc _ _ t14 t15 t16 t17 _ t19 ⟨q,rfl,rfl,e2,e3,e4,rfl,rfl,rfl,e8,rfl,rfl,rfl,e14,e15,e16,e17,rfl,e19,hq,hc⟩
  subst e2 e3 e4 e8 e14 e15 e16 e17 e19
  rcases hq with ⟨hb,rfl⟩ | hq
  ·have c1:=step_end ((T.below l t4).drop 0) t2 t3 t4 2 0 t8 0 fc (mapQ t2 t3 l t4 0) g l z t14 t15 t16 t17
   have c2:=Value_ev ((T.below l t4).drop 0) t2 t3 t4 true 2 0 t8 0 fc (mapQ t2 t3 l t4 0) g l z t14 t15 t16 t17
   have hd:decide (T.below l t4=[])=true:=decide_eq_true hb
   have hz:costQ t2 l t4 0=0:=by simp [costG]
   simp only [hd,if_pos hb,hz]
   ((repeat apply Exists.intro);refine And.intro (Need.mk (c1)) ?_)
   refine ⟨fun h1=>by simp at h1,fun _=>?_⟩
   ((repeat apply Exists.intro);refine And.intro (Need.mk (c2)) ?_)
   refine ⟨V0,2,0,fc,⟨fun _=>⟨rfl,rfl,rfl⟩,fun h1=>absurd hb h1,fun h1=>absurd hb h1⟩,rfl,rfl⟩
  ·have hne:T.below l t4≠[]:=fun q=>by rw [q] at hq;simp at hq
   have hd:decide (T.below l t4=[])=false:=decide_eq_false hne
   have hdr:=drop_ne hq
   have hr:inR l t4=true:=by
    cases hx:inR l t4 with
    | true=>rfl
    | false=>exact absurd (below_out hx) hne
   have c1:=step_ev t2 t3 t4 0 (q:Int) t8 (costQ t2 l t4 q:Int) fc (mapQ t2 t3 l t4 q) g l z t14 t15 t16 t17 ((T.below l t4).getD q 0) ((T.below l t4).drop (q+1)) (h.kidsN _) ht htl (opsN_le hA _ _) (by omega) hc hfa ⟨by omega,by omega⟩
   have hs:costQ t2 l t4 (q+1)=costQ t2 l t4 q+costN t2 l ((T.below l t4).getD q 0):=costG_succ hq
   simp only [hd,if_neg hne]
   rw [hdr]
   unfold stepH at c1
   by_cases hlt:t8-(costQ t2 l t4 q:Int)<(costN t2 l ((T.below l t4).getD q 0):Int)
   ·rw [if_pos hlt] at c1
    ((repeat apply Exists.intro);refine And.intro (Need.mk (c1)) ?_)
    refine ⟨fun h1=>by simp at h1,fun _=>?_⟩
    ((repeat apply Exists.intro);refine And.intro (Need.mk (Value_ev ((T.below l t4).getD q 0::(T.below l t4).drop (q+1)) t2 t3 t4 true 5 ((q:Int)+1) t8 (costQ t2 l t4 q:Int) fc (mapQ t2 t3 l t4 q) g l z t14 t15 t16 t17)) ?_)
    have hmono:costQ t2 l t4 (q+1)≤costQ t2 l t4 (T.below l t4).length:=costG_mono (by omega)
    exact ⟨V0,5,_,fc,⟨fun h1=>absurd h1 hne,fun _ h1=>by omega,fun _ _=>⟨rfl,rfl,hc⟩⟩,rfl,rfl⟩
   ·rw [if_neg hlt] at c1
    have hcost:(costQ t2 l t4 q:Int)+(costN t2 l ((T.below l t4).getD q 0):Int)=(costQ t2 l t4 (q+1):Int):=by omega
    rw [hcost] at c1
    ((repeat apply Exists.intro);refine And.intro (Need.mk (c1)) ?_)
    refine ⟨fun h1=>?_,fun h1=>?_⟩
    ·have hn:(T.below l t4).drop (q+1)≠[]:=by simpa using h1
     have hq1:q+1<(T.below l t4).length:=by
      apply Classical.byContradiction;intro hx
      exact hn (List.drop_eq_nil_of_le (by omega))
     refine And.intro (Need.mk tr0) (And.intro ⟨q+1,tr0,tr0,tr0,tr0,tr0,decide_eq_false hn,tr0,tr0,tr0,tr0,tr0,tr0,tr0,tr0,tr0,tr0,tr0,tr0,.inr hq1,by omega⟩ (Need.mk ?_))
     simp only [List.length_cons];omega
    ·have hn:(T.below l t4).drop (q+1)=[]:=by simpa using h1
     have hq1:q+1=(T.below l t4).length:=by
      have:=congrArg List.length hn
      simp only [List.length_drop,List.length_nil] at this;omega
     have hdn:decide ((T.below l t4).drop (q+1)=[])=true:=decide_eq_true hn
     rw [hdn]
     ((repeat apply Exists.intro);refine And.intro (Need.mk (Value_ev ((T.below l t4).drop (q+1)) t2 t3 t4 true 0 ((q:Int)+1) t8 (costQ t2 l t4 (q+1):Int) (max fc (costQ t2 l t4 (q+1):Int)) (mapQ t2 t3 l t4 (q+1)) g l z t14 t15 t16 t17)) ?_)
     have hv:resM true 0 (mapQ t2 t3 l t4 (q+1)) t4=treeN (FF t2 t3 l) V0 l t4:=by
      unfold resM
      rw [if_pos ⟨rfl,rfl⟩]
      have:=mapQ_told (acts:=t2) (text:=t3) h hr (q+1) (by omega)
      rw [hq1] at this ⊢
      exact this.root h hr
     refine ⟨_,0,_,_,⟨fun h1=>absurd h1 hne,fun _ _=>⟨hv,rfl,by rw [hq1]⟩,fun _ h1=>by rw [← hq1] at h1;omega⟩,rfl,rfl⟩
 obtain ⟨av,h',e,v,ec,fb,fc,hR,rfl,rfl⟩:=key
 exact ⟨v,ec,fb,fc,hR,e⟩
end Go.Am.Z.W
namespace Go.Am.Z.W
open Go Go.Am.Z.T Go.Am.Z.V
set_option maxRecDepth 100000
abbrev X0:XT:=.mk 0 0 []
structure OkX (x:XT):Prop where
 rt:V.right x=true
 sz:sizeN x≤1000
theorem OkX.zero:OkX X0:=⟨by simp [V.right,XT.kind,XT.num,XT.kids],by simp [sizeN,sizeNL]⟩
theorem sure_right {x:XT} (h:V.sure x=true):V.right x=true:=by unfold V.right;rw [h];simp
theorem sure_kind {x:XT} (h:V.sure x=true):x.kind≠0:=by
 rw [sure_eq] at h
 simp only [Bool.and_eq_true,decide_eq_true_eq] at h
 omega
theorem sure_kids {x:XT} (h:V.sure x=true):∀ y∈x.kids,V.sure y=true:=by
 rw [sure_eq] at h
 simp only [Bool.and_eq_true,decide_eq_true_eq,List.all_eq_true] at h
 exact h.2
theorem sure_comp {x:XT} (h:V.sure x=true):comp x=compL x.kids++[(x.kind,x.num,())]:=by
 rw [comp_eq,if_neg (by rw [sure_right h];simp [sure_kind h])]
theorem ssize_ev:∀ x:XT,V.sure x=true→sizeN x≤1000→E 43 [.tv [] .expr x] [] (iv (comp x).length) []:=by
 refine XT.ind' fun x ih hsu hs=>?_
 rw [sizeN_eq] at hs
 refine ev_of (vc43 x _ ⟨fun h=>?_,fun h=>?_⟩)
 ·(simp only [dq1,dq2,dq3,dq4] at h);exact absurd h (sure_kind hsu)
 ·have hce:=sure_comp hsu
  have hkl:=sizeNL_len x.kids
  refine ⟨fun s i=>∃ n:Nat,i=n∧n≤x.kids.length∧s=1+((compL (x.kids.take n)).length:Int),fun _ i=>(x.kids.length-i).toNat,⟨0,rfl,by omega,rfl⟩,?_⟩
  rintro _ _ ⟨n,rfl,hn,rfl⟩
  have hl:=compL_len (x.kids.take n)
  have hl2:=sizeNL_take x.kids n
  refine ⟨fun hq=>?_,fun hq=>?_⟩
  ·(simp only [dq1,dq2,dq3,dq4] at hq)
   have hn':n<x.kids.length:=by omega
   have hm:=getD_mem' (XT.mk 0 0 []) hn'
   have hsz:=sizeNL_mem hm
   have hcl:=comp_len (x.kids.getD n (XT.mk 0 0 []))
   refine ⟨⟨by omega⟩,_,⟨ih _ (getD_mem' _ (by simpa using hn')) (sure_kids hsu _ (getD_mem' _ (by simpa using hn'))) (by simp only [Int.toNat_natCast];omega)⟩,⟨by simp only [Int.toNat_natCast];omega⟩,⟨by omega⟩,⟨n+1,rfl,by omega,?_⟩,⟨by ((try dsimp only);omega)⟩⟩
   rw [take_snoc (XT.mk 0 0 []) hn',compL_append]
   simp [compL];omega
  ·(simp only [dq1,dq2,dq3,dq4] at hq)
   have:n=x.kids.length:=by omega
   subst this
   rw [hce,List.take_length]
   refine ⟨tvI ?_,rfl⟩
   simp;omega
theorem size_ev {x:XT} (h:OkX x):E 43 [.tv [] .expr x] [] (iv (comp x).length) []:=by
 cases hs:V.sure x with
 | true=>exact ssize_ev x hs h.sz
 | false =>
  have h1:=h.rt
  unfold V.right at h1
  rw [hs] at h1
  simp only [Bool.or_false,Bool.and_eq_true,decide_eq_true_eq] at h1
  have hc:comp x=[]:=by rw [comp_eq,if_pos (.inl h1.1.1)]
  rw [hc]
  exact ev_of (vc43 x _ ⟨fun _=>⟨rfl,rfl⟩,fun q=>by (simp only [dq1,dq2,dq3,dq4] at q);exact absurd h1.1.1 q⟩)
def actX (xs:List XT) (r:Int):XT:=if 0≤r∧r<xs.length then xs.getD r.toNat X0 else X0
theorem act_ev (xs:List XT) (r:Int):E 44 [.tv [] (.slice .expr) xs,iv r] [] (.tv [] .expr (actX xs r)) []:=by
 refine ev_of (vc44 xs r _ ⟨fun h=>?_,fun h=>⟨fun h2=>?_,fun h2=>⟨⟨?_⟩,?_⟩⟩⟩)
 ·(simp only [dq1,dq2,dq3,dq4] at h);have:actX xs r=X0:=by unfold actX;rw [if_neg (by omega)]
  rw [this];exact ⟨rfl,rfl⟩
 ·(simp only [dq1,dq2,dq3,dq4] at h2);have:actX xs r=X0:=by unfold actX;rw [if_neg (by omega)]
  rw [this];exact ⟨rfl,rfl⟩
 ·(simp only [dq1,dq2,dq3,dq4] at h);(simp only [dq1,dq2,dq3,dq4] at h2);omega
 ·(simp only [dq1,dq2,dq3,dq4] at h);(simp only [dq1,dq2,dq3,dq4] at h2);have:actX xs r=xs.getD r.toNat X0:=by unfold actX;rw [if_pos (by omega)]
  rw [this];exact ⟨rfl,rfl⟩
theorem actX_ok {xs:List XT} (h:∀ x∈xs,OkX x) (r:Int):OkX (actX xs r):=by
 unfold actX
 split
 ·exact h _ (getD_mem' _ (by omega))
 ·exact .zero
theorem ops_act (xs:List XT) (l:List Th) (i:Int):opsN (xs.map comp) l i=comp (actX xs (ruleN l i)):=by
 unfold opsN actX
 rw [List.length_map]
 split
 ·rename_i h
  exact map_getD comp xs _ X0 [] (by omega)
 ·rfl
theorem acts_le {xs:List XT} (h:∀ x∈xs,OkX x):∀ o∈xs.map comp,o.length≤1000:=fun o ho=>by
 obtain ⟨x,hx,rfl⟩:=List.mem_map.1 ho
 exact Nat.le_trans (comp_len x) (h x hx).sz
theorem costN_eq (xs:List XT) (l:List Th) (i:Int):costN (xs.map comp) l i=if leafN l i=true then 1 else 1+(comp (actX xs (ruleN l i))).length:=by unfold costN;rw [ops_act]
theorem costN_le {xs:List XT} (h:∀ x∈xs,OkX x) (l:List Th) (i:Int):costN (xs.map comp) l i≤1001:=by
 unfold costN
 have:=opsN_le (acts_le h) l i
 split <;> omega
theorem cost_ev (xs:List XT) (g:Nat) (l:List Th) (a b c:Int) (root:Int) (h:Tr l) (hl:l.length≤1000) (hx:∀ x∈xs,OkX x):E 17 [.op (0,0) [],iv root,.tv [] (.slice .expr) xs] (hR g (toRL l) a b c) (iv (costQ (xs.map comp) l root (T.below l root).length)) (hR g (toRL l) a b c):=by
 have hB:(T.below l root).length≤1000:=Nat.le_trans (tr_size h root) hl
 refine ev_of (vc17 root xs g (toRL l) a b c _ ?_)
 ((repeat apply Exists.intro);refine And.intro (Need.mk (rbelow_ev g l a b c h hl root)) ?_)
 refine ⟨fun s i t1 t2 t3 t4 t5 t6 t7=>∃ n:Nat,i=n∧n≤(T.below l root).length∧s=(costQ (xs.map comp) l root n:Int)∧t1=(g:Int)∧t2=((toRL l).length:Int)∧t3=a∧t4=b∧t5=c∧t6=(g:Int)∧t7=toRL l,fun _ i _ _ _ _ _ _ _=>(((T.below l root).length:Int)-i).toNat,⟨tr0⟩,⟨0,tr0,by omega,by simp [costG],tr0,tr0,tr0,tr0,tr0,tr0,tr0⟩,?_⟩
 rintro _ _ _ _ t3 t4 t5 _ _ ⟨n,rfl,hn,rfl,rfl,rfl,e3,e4,e5,rfl,rfl⟩
 subst e3 e4 e5
 have hle:costQ (xs.map comp) l root n≤1001 * n:=costG_le (costN_le hx l) n
 refine ⟨fun h1=>?_,fun h1=>?_⟩
 ·(simp only [dq1,dq2,dq3,dq4] at h1)
  have hn':n<(T.below l root).length:=by omega
  have hs:costQ (xs.map comp) l root (n+1)=costQ (xs.map comp) l root n+costN (xs.map comp) l ((T.below l root).getD n 0):=costG_succ hn'
  have hi:inR l ((T.below l root).getD n 0)=true:=below_inR h (getD_mem' (0:Int) hn')
  have hat:atR l ((T.below l root).getD n 0)=toR (l.getD ((T.below l root).getD n 0).toNat th0):=by unfold atR;rw [if_pos hi]
  have hcn:=costN_le hx l ((T.below l root).getD n 0)
  rw [Int.toNat_natCast]
  refine And.intro (Need.mk (by omega)) (And.intro (Need.mk (by omega)) ?_)
  have c1:=rat_ev g l t3 t4 t5 ((T.below l root).getD n 0)
  rw [hat] at c1
  ((repeat apply Exists.intro);refine And.intro (Need.mk (c1)) ?_)
  have hlf:=toR_leaf hi
  have hru:=toR_rule hi
  refine ⟨fun h2=>?_,fun h2=>?_⟩
  ·have h2':leafN l ((T.below l root).getD n 0)=false:=by rw [← hlf];exact (Bool.not_eq_true' _).mp h2
   have hc:costN (xs.map comp) l ((T.below l root).getD n 0)=1+(comp (actX xs (ruleN l ((T.below l root).getD n 0)))).length:=by rw [costN_eq,h2'];simp
   have c2:=act_ev xs (ruleN l ((T.below l root).getD n 0))
   rw [← hru] at c2 hc
   ((repeat apply Exists.intro);refine And.intro (Need.mk (c2)) ?_)
   ((repeat apply Exists.intro);refine And.intro (Need.mk (size_ev (actX_ok hx _))) ?_)
   refine And.intro (Need.mk (by omega)) (And.intro (Need.mk (by omega)) (And.intro (Need.mk tr0) (And.intro ⟨n+1,by omega,by omega,by omega,tr0,tr0,tr0,tr0,tr0,tr0,tr0⟩ (Need.mk (by ((try dsimp only);omega))))))
  ·have h2':leafN l ((T.below l root).getD n 0)=true:=by rw [← hlf];exact (Bool.not_eq_false' _).mp h2
   have hc:costN (xs.map comp) l ((T.below l root).getD n 0)=1:=by rw [costN_eq,h2'];simp
   refine And.intro (Need.mk (by omega)) (And.intro (Need.mk tr0) (And.intro ⟨n+1,by omega,by omega,by omega,tr0,tr0,tr0,tr0,tr0,tr0,tr0⟩ (Need.mk (by ((try dsimp only);omega)))))
 ·(simp only [dq1,dq2,dq3,dq4] at h1)
  have:n=(T.below l root).length:=by omega
  subst this
  exact ⟨tr0,tr0⟩
end Go.Am.Z.W
namespace Go.Am.Z.W
open Go Go.Am.Z.T Go.Am.Z.V
set_option maxRecDepth 100000
theorem run_in {x:XT} {vals:List Val} {nodes:List Int} (hv:RngV vals) (hn:∀ n∈nodes,In64 n):In64 (runK (comp x) vals nodes).2.1:=by
 by_cases hb:badTop (comp x) vals nodes
 ·have:runK (comp x) vals nodes=(3,31,()):=by unfold runK;exact if_pos hb
  rw [this];exact ⟨by decide,by decide⟩
 ·obtain ⟨_,hf,_,hr⟩:=top_sure hb
  rw [hr];exact mean_in hv hn _ x hf
theorem leafK_in {s:List Int} (h:s.length≤1000):In64 (leafK s).2.1:=by
 unfold leafK
 split
 ·exact w64_in _
 ·exact ⟨by simp only;omega,by simp only;omega⟩
section
variable {xs:List XT} {text:List Int} {l:List Th}
theorem kids64 (h:Tr l) (hl:l.length≤1000) {i:Int} (hi:inR l i=true):∀ n∈kidsN l i,In64 n:=fun n hn=>by
 obtain ⟨h1,h2,h3⟩:=kid_in h hi hn
 have:=inR_iff.1 h3
 exact ⟨by omega,by omega⟩
theorem valF_in (h:Tr l) (hl:l.length≤1000) (ht:Byts text) (htl:text.length≤1000) {i:Int} (hi:inR l i=true) {vs:List Val} (hv:RngV vs):In64 (valF (xs.map comp) text l i vs).2.1:=by
 unfold valF
 split
 ·exact leafK_in (textS_ok ht htl _).2
 ·split
  ·rw [ops_act];exact run_in hv (kids64 h hl hi)
  ·split
   ·exact getD_rng hv 0
   ·exact ⟨by decide,by decide⟩
theorem tree_in (h:Tr l) (hl:l.length≤1000) (ht:Byts text) (htl:text.length≤1000):∀ n:Nat,∀ i:Int,i.toNat≤n→inR l i=true→In64 (treeN (FF (xs.map comp) text l) V0 l i).2.1:=by
 intro n
 induction n using Nat.strongRecOn with
 | _ n ih =>
  intro i hn hi
  rw [treeN_eq h hi]
  refine valF_in h hl ht htl hi fun v hv=>?_
  obtain ⟨k,hk,rfl⟩:=List.mem_map.1 hv
  obtain ⟨h1,h2,h3⟩:=kid_in h hi hk
  exact ih k.toNat (by omega) k (Nat.le_refl _) h3
theorem rtext (text:List Int) (x:Tok):(x.2.1<0∨x.2.2.1<x.2.1∨(text.length:Int)<x.2.2.1)→textS text x=[]:=fun h=>by unfold textS;exact if_pos h
theorem rtree_tv (g:Nat) (a b c:Int) (h:Tr l) (hl:l.length≤1000) (ht:Byts text) (htl:text.length≤1000) (hx:∀ x∈xs,OkX x):∀ n:Nat,∀ i:Int,i.toNat≤n→inR l i=true →
  E 19 [.op (0,0) [],iv i,.tv [] (.slice .expr) xs,.tv [] .str text] (hR g (toRL l) a b c) (.tv [] tV (treeN (FF (xs.map comp) text l) V0 l i)) (hR g (toRL l) a b c):=by
 intro n
 induction n using Nat.strongRecOn with
 | _ n ih =>
  intro i hn hi
  have hat:atR l i=toR (l.getD i.toNat th0):=by unfold atR;rw [if_pos hi]
  have c1:=rat_ev g l a b c i
  rw [hat] at c1
  have hlf:=toR_leaf hi
  have hru:=toR_rule hi
  have hki:=toR_kids hi
  have hto:=toR_tok hi
  have hvl:treeN (FF (xs.map comp) text l) V0 l i=valF (xs.map comp) text l i ((kidsN l i).map (treeN (FF (xs.map comp) text l) V0 l)):=treeN_eq h hi
  have hk1:=h.kidsN i
  generalize toR (l.getD i.toNat th0)=w at c1 hlf hru hki hto
  obtain ⟨w0,w1,w2,⟨w3,w4,w5,⟨⟩⟩,w6,w7,⟨⟩⟩:=w
  simp only at hlf hru hki hto
  subst hlf hru hki
  refine ev_of (vc19 i xs text g (toRL l) a b c _ ?_)
  ((repeat apply Exists.intro);refine And.intro (Need.mk (c1)) ?_)
  refine ⟨fun h1=>?_,fun h1=>?_⟩
  ·have hv:valF (xs.map comp) text l i ((kidsN l i).map (treeN (FF (xs.map comp) text l) V0 l))=leafK (textS text (w3,(w4,(w5,())))):=by
    unfold valF;rw [if_pos h1,← hto]
   rw [hvl,hv]
   refine ⟨fun h2=>?_,fun h2=>⟨fun h3=>?_,fun h3=>⟨fun h4=>?_,fun h4=>?_⟩⟩⟩
   ·(simp only [dq1,dq2,dq3,dq4] at h2)
    rw [rtext text _ (.inl h2)]
    ((repeat apply Exists.intro);refine And.intro (Need.mk (V.rleaf_ev [] (fun c hc=>by simp at hc) (by simp))) ?_)
    exact ⟨rfl,rfl⟩
   ·(simp only [dq1,dq2,dq3,dq4] at h3)
    rw [rtext text _ (.inr (.inl h3))]
    ((repeat apply Exists.intro);refine And.intro (Need.mk (V.rleaf_ev [] (fun c hc=>by simp at hc) (by simp))) ?_)
    exact ⟨rfl,rfl⟩
   ·(simp only [dq1,dq2,dq3,dq4] at h4)
    rw [rtext text _ (.inr (.inr h4))]
    ((repeat apply Exists.intro);refine And.intro (Need.mk (V.rleaf_ev [] (fun c hc=>by simp at hc) (by simp))) ?_)
    exact ⟨rfl,rfl⟩
   ·(simp only [dq1,dq2,dq3,dq4] at h2);(simp only [dq1,dq2,dq3,dq4] at h3);(simp only [dq1,dq2,dq3,dq4] at h4)
    have ht2:=textS_ok ht htl (w3,(w4,(w5,())))
    have e:textS text (w3,(w4,(w5,())))=cut text w4.toNat w5.toNat:=by unfold textS;exact if_neg (by simp only;omega)
    rw [e] at ht2 ⊢
    refine And.intro (Need.mk (by omega)) ?_
    ((repeat apply Exists.intro);refine And.intro (Need.mk (V.rleaf_ev (cut text w4.toNat w5.toNat) ht2.1 ht2.2)) ?_)
    exact ⟨rfl,rfl⟩
  ·refine ⟨fun vs j t1 t2 t3 t4 t5 t6 t7=>∃ n:Nat,j=n∧n≤(kidsN l i).length∧vs=((kidsN l i).take n).map (treeN (FF (xs.map comp) text l) V0 l)∧t1=(g:Int)∧t2=((toRL l).length:Int)∧t3=a∧t4=b∧t5=c∧t6=(g:Int)∧t7=toRL l,fun _ j _ _ _ _ _ _ _=>(((kidsN l i).length:Int)-j).toNat,⟨tr0⟩,⟨0,tr0,by omega,tr0,tr0,tr0,tr0,tr0,tr0,tr0,tr0⟩,?_⟩
   rintro _ _ _ _ t3 t4 t5 _ _ ⟨q,rfl,hq,rfl,rfl,rfl,e3,e4,e5,rfl,rfl⟩
   subst e3 e4 e5
   refine ⟨fun h2=>?_,fun h2=>?_⟩
   ·(simp only [dq1,dq2,dq3,dq4] at h2)
    have hq':q<(kidsN l i).length:=by omega
    obtain ⟨k1,k2,k3⟩:=kid_in h hi (getD_mem' (0:Int) hq')
    rw [Int.toNat_natCast]
    refine And.intro (Need.mk (by omega)) ?_
    ((repeat apply Exists.intro);refine And.intro (Need.mk (ih ((kidsN l i).getD q 0).toNat (by omega) ((kidsN l i).getD q 0) (Nat.le_refl _) k3)) ?_)
    refine And.intro (Need.mk (by simp only [List.length_map,List.length_take,List.length_cons,List.length_nil,bigN];omega)) (And.intro (Need.mk (by omega)) (And.intro (Need.mk tr0) (And.intro ⟨q+1,by omega,by omega,?_,tr0,tr0,tr0,tr0,tr0,tr0,tr0⟩ (Need.mk (by ((try dsimp only);omega))))))
    rw [take_snoc (0:Int) hq',List.map_append];rfl
   ·(simp only [dq1,dq2,dq3,dq4] at h2)
    have:q=(kidsN l i).length:=by omega
    subst this
    rw [List.take_length]
    have hrng:RngV ((kidsN l i).map (treeN (FF (xs.map comp) text l) V0 l)):=fun v hv=>by
     obtain ⟨k,hk,rfl⟩:=List.mem_map.1 hv
     obtain ⟨k1,k2,k3⟩:=kid_in h hi hk
     exact tree_in h hl ht htl k.toNat k (Nat.le_refl _) k3
    ((repeat apply Exists.intro);refine And.intro (Need.mk (act_ev xs (ruleN l i))) ?_)
    ((repeat apply Exists.intro);refine And.intro (Need.mk (size_ev (actX_ok hx (ruleN l i)))) ?_)
    rw [hvl,valF_ops _ _ _ _ h1,ops_act]
    refine ⟨fun h3=>?_,fun h3=>⟨fun h4=>⟨⟨?_⟩,?_⟩,fun h4=>?_⟩⟩
    ·(simp only [dq1,dq2,dq3,dq4] at h3)
     rw [if_pos (by omega)]
     ((repeat apply Exists.intro);refine And.intro (Need.mk (rmean_ev (actX xs (ruleN l i)) _ (kidsN l i) (actX_ok hx _).sz hrng (kids64 h hl hi))) ?_)
     exact ⟨rfl,rfl⟩
    ·(simp only [dq1,dq2,dq3,dq4] at h4);exact ⟨by omega,h4⟩
    ·(simp only [dq1,dq2,dq3,dq4] at h3);(simp only [dq1,dq2,dq3,dq4] at h4)
     rw [if_neg (by omega),if_pos (by omega)];exact ⟨rfl,rfl⟩
    ·(simp only [dq1,dq2,dq3,dq4] at h3);(simp only [dq1,dq2,dq3,dq4] at h4)
     rw [if_neg (by omega),if_neg (by omega)];exact ⟨rfl,rfl⟩
end
end Go.Am.Z.W
