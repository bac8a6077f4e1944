/-
  A part of the proof of a law: see the text that states it.
-/
import Derived.Test.YtfnnapgpcndcjaaGreatDoorTU
import Derived.Test.YtfnnapgpcndcjaaGreatDoorTZ3
import Derived.Test.YtfnnapgpcndcjaaGreatDoorVE
import Derived.Test.YtfnnapgpcndcjaaGreatDoorVc2
import Derived.Test.YtfnnapgpcndcjaaGreatDoorVc3
import Derived.Test.YtfnnapgpcndcjaaGreatDoorVc4
import Derived.Test.YtfnnapgpcndcjaaGreatDoorVcA
import Derived.Test.YtfnnapgpcndcjaaGreatDoorVcC
set_option linter.all false
namespace Go.Am.Z.W
open Go Go.Am.Z.T Go.Am.Z.V
set_option maxRecDepth 100000
abbrev tMc:Ty:=.pair .ref (.pair qt7 (.pair (.slice (.slice tV)) (.pair .str (.pair .ref (.pair (.mref (.int .i64) tV) qt8)))))
abbrev oMc (k kt kf kv:Key) (todo:List Int) (acts:List (List Op2)) (text:List Int) (root:Int) (ended:Bool) (e st:Int):Key×Ob:=(k,⟨⟨tMc,((some kt:Option Key),(todo,(acts,(text,((some kf:Option Key),((some kv:Option Key),(root,(ended,(e,(st,()))))))))))⟩,[]⟩)
abbrev oMp (k:Key) (m:List (Int×Val)):Key×Ob:=(k,⟨⟨.mp (.int .i64) tV,m⟩,[]⟩)
abbrev hMc (todo:List Int) (acts:List (List Op2)) (text:List Int) (root:Int) (ended:Bool) (e st fa fb fc:Int) (m:List (Int×Val)) (g:Nat) (l z:List Th) (cc a b c:Int):Heap :=
 [oMc (0,0) (0,1) (0,2) (0,3) todo acts text root ended e st,oT (0,1) (0,4),oM (0,2) fa fb fc,oMp (0,3) m,oA (0,4) (0,5) (0,6) g l.length cc,oM (0,5) a b c,oL (0,6) g (l++z)]
def opsN (acts:List (List Op2)) (l:List Th) (i:Int):List Op2:=if 0≤ruleN l i∧ruleN l i<acts.length then acts.getD (ruleN l i).toNat [] else []
def textS (s:List Int) (x:Tok):List Int:=if x.2.1<0∨x.2.2.1<x.2.1∨(s.length:Int)<x.2.2.1 then [] else cut s x.2.1.toNat x.2.2.1.toNat
def valF (acts:List (List Op2)) (text:List Int) (l:List Th) (i:Int) (vs:List Val):Val :=
 if leafN l i=true then leafK (textS text (tokN l i)) else if 0<(opsN acts l i).length then runK (opsN acts l i) vs (kidsN l i) else if 0<vs.length then vs.getD 0 V0 else (1,0,())
def costN (acts:List (List Op2)) (l:List Th) (i:Int):Nat:=if leafN l i=true then 1 else 1+(opsN acts l i).length
theorem cut_le {α:Type} (s:List α) (a b:Nat):(cut s a b).length≤s.length:=by unfold cut;simp only [List.length_drop,List.length_take];omega
theorem cut_mem {α:Type} {s:List α} {a b:Nat} {c:α} (h:c∈cut s a b):c∈s:=List.mem_of_mem_take (List.mem_of_mem_drop h)
theorem textS_ok {s:List Int} (hs:Byts s) (hl:s.length≤1000) (x:Tok):Byts (textS s x)∧(textS s x).length≤1000:=by
 unfold textS
 split
 ·exact ⟨fun c hc=>by simp at hc,by simp⟩
 ·exact ⟨fun c hc=>hs c (cut_mem hc),Nat.le_trans (cut_le _ _ _) hl⟩
theorem text_ev (s:List Int) (x:Tok):E 80 [.tv [] .str s,.tv [] tTok x] [] (.tv [] .str (textS s x)) []:=by
 obtain ⟨x0,x1,x2,_⟩:=x
 have e0:∀ h:x1<0∨x2<x1∨(s.length:Int)<x2,textS s (x0,x1,x2,())=[]:=fun h=>by unfold textS;exact if_pos h
 refine ev_of (vc80 s x0 x1 x2 _ ⟨fun h=>?_,fun h=>⟨fun h2=>?_,fun h2=>⟨fun h3=>?_,fun h3=>⟨⟨?_⟩,?_⟩⟩⟩⟩)
 ·(simp only [dq1,dq2,dq3,dq4] at h);rw [e0 (.inl h)];exact ⟨rfl,rfl⟩
 ·(simp only [dq1,dq2,dq3,dq4] at h2);rw [e0 (.inr (.inl h2))];exact ⟨rfl,rfl⟩
 ·(simp only [dq1,dq2,dq3,dq4] at h3);rw [e0 (.inr (.inr h3))];exact ⟨rfl,rfl⟩
 ·(simp only [dq1,dq2,dq3,dq4] at h);(simp only [dq1,dq2,dq3,dq4] at h2);(simp only [dq1,dq2,dq3,dq4] at h3);omega
 ·(simp only [dq1,dq2,dq3,dq4] at h);(simp only [dq1,dq2,dq3,dq4] at h2);(simp only [dq1,dq2,dq3,dq4] at h3)
  have:textS s (x0,x1,x2,())=cut s x1.toNat x2.toNat:=by unfold textS;exact if_neg (by simp only;omega)
  rw [this];exact ⟨rfl,rfl⟩
section
variable (todo:List Int) (acts:List (List Op2)) (text:List Int) (root:Int) (ended:Bool) (e st fa fb fc:Int) (m:List (Int×Val)) (g:Nat) (l z:List Th) (cc a b c:Int) (i:Int)
theorem ops_ev:E 49 [.op (0,0) [],iv i] (hMc todo acts text root ended e st fa fb fc m g l z cc a b c) (.tv [[]] (.slice tV) (opsN acts l i)) (hMc todo acts text root ended e st fa fb fc m g l z cc a b c)∨E 49 [.op (0,0) [],iv i] (hMc todo acts text root ended e st fa fb fc m g l z cc a b c) (.tv [] (.slice tV) (opsN acts l i)) (hMc todo acts text root ended e st fa fb fc m g l z cc a b c):=by
 by_cases h:0≤ruleN l i∧ruleN l i<acts.length
 ·right
  refine ev_of (vc49 i todo acts text root ended e st fa fb fc m g (l++z) l.length cc a b c _ ?_)
  ((repeat apply Exists.intro);refine And.intro (Need.mk (rule_tv g l z cc a b c i)) ?_)
  refine ⟨fun _=>⟨fun _=>⟨⟨by omega⟩,?_⟩,fun h2=>by (simp only [dq1,dq2,dq3,dq4] at h2);omega⟩,fun h2=>by (simp only [dq1,dq2,dq3,dq4] at h2);omega⟩
  have e2:opsN acts l i=acts.getD (ruleN l i).toNat []:=by unfold opsN;rw [if_pos h]
  rw [e2];exact ⟨rfl,rfl⟩
 ·left
  refine ev_of (vc49 i todo acts text root ended e st fa fb fc m g (l++z) l.length cc a b c _ ?_)
  have e2:opsN acts l i=[]:=by unfold opsN;rw [if_neg h]
  ((repeat apply Exists.intro);refine And.intro (Need.mk (rule_tv g l z cc a b c i)) ?_)
  refine ⟨fun h1=>⟨fun h2=>by (simp only [dq1,dq2,dq3,dq4] at h1);(simp only [dq1,dq2,dq3,dq4] at h2);omega,fun _=>?_⟩,fun _=>?_⟩ <;> (rw [e2];exact ⟨rfl,rfl⟩)
theorem valF_ops {vs:List Val} (h:leafN l i=false):valF acts text l i vs=if 0<(opsN acts l i).length then runK (opsN acts l i) vs (kidsN l i) else if 0<vs.length then vs.getD 0 V0 else (1,0,()):=by
 unfold valF;rw [h];rfl
theorem value_ev (hk:(kidsN l i).length≤1000) (ht:Byts text) (hl:text.length≤1000) (ho:(opsN acts l i).length≤1000):E 51 [.op (0,0) [],iv i] (hMc todo acts text root ended e st fa fb fc m g l z cc a b c) (.tv [] tV (valF acts text l i ((kidsN l i).map fun k=>Pr.mget m k V0))) (hMc todo acts text root ended e st fa fb fc m g l z cc a b c):=by
 refine ev_of (vc51 i todo acts text root ended e st fa fb fc m g (l++z) l.length cc a b c _ ?_)
 ((repeat apply Exists.intro);refine And.intro (Need.mk (kids_tv g l z cc a b c i hk)) ?_)
 refine ⟨fun vs j t1 t2 t3 t4 t5 t6 t7 t8 t9 t10 t11 t12 t13 t14 t15 t16 t17 t18 t19=>∃ n:Nat,j=n∧n≤(kidsN l i).length∧vs=((kidsN l i).take n).map (fun k=>Pr.mget m k V0)∧t1=todo∧t2=acts∧t3=text∧t4=root∧t5=ended∧t6=e∧t7=st∧t8=fa∧t9=fb∧t10=fc∧t11=m∧t12=(g:Int)∧t13=(l.length:Int)∧t14=cc∧t15=a∧t16=b∧t17=c∧t18=(g:Int)∧t19=l++z,
  fun _ j _ _ _ _ _ _ _ _ _ _ _ _ _ _ _ _ _ _ _=>(((kidsN l i).length:Int)-j).toNat,⟨tr0⟩,⟨0,tr0,by omega,tr0,tr0,tr0,tr0,tr0,tr0,tr0,tr0,tr0,tr0,tr0,tr0,tr0,tr0,tr0,tr0,tr0,tr0,tr0,tr0⟩,?_⟩
 rintro _ _ t1 t2 t3 t4 t5 t6 t7 t8 t9 t10 t11 t12 t13 t14 t15 t16 t17 t18 t19 ⟨n,rfl,hn,rfl,e1,e2,e3,e4,e5,e6,e7,e8,e9,e10,e11,rfl,rfl,e14,e15,e16,e17,rfl,e19⟩
 subst e1 e2 e3 e4 e5 e6 e7 e8 e9 e10 e11 e14 e15 e16 e17 e19
 refine ⟨fun h=>?_,fun h=>?_⟩
 ·(simp only [dq1,dq2,dq3,dq4] at h)
  have hn':n<(kidsN l i).length:=by omega
  refine And.intro (Need.mk (by omega)) (And.intro (Need.mk (by simp only [List.length_map,List.length_take,List.length_cons,List.length_nil,bigN];omega)) (And.intro (Need.mk (by omega)) (And.intro (Need.mk tr0) (And.intro ⟨n+1,by omega,by omega,?_,tr0,tr0,tr0,tr0,tr0,tr0,tr0,tr0,tr0,tr0,tr0,tr0,tr0,tr0,tr0,tr0,tr0,tr0,tr0⟩ (Need.mk (by ((try dsimp only);omega)))))))
  rw [take_snoc (0:Int) hn',List.map_append];rfl
 ·(simp only [dq1,dq2,dq3,dq4] at h)
  have:n=(kidsN l i).length:=by omega
  subst this
  rw [List.take_length]
  have leafc:leafN l i=true→E 29 [.tv [] .str (textS t3 (tokN l i))] [] (.tv [] tV (valF t2 t3 l i ((kidsN l i).map fun k=>Pr.mget t11 k V0))) []:=fun hlf=>by
   have:=V.leaf_ev (textS t3 (tokN l i)) (textS_ok ht hl _).1 (textS_ok ht hl _).2
   unfold valF;rw [if_pos hlf];exact this
  have runc:leafN l i=false→0<(opsN t2 l i).length→E 27 [.tv [] (.slice tV) (opsN t2 l i),.tv [] (.slice tV) ((kidsN l i).map fun k=>Pr.mget t11 k V0),.tv [] qt7 (kidsN l i)] [] (.tv [] tV (valF t2 t3 l i ((kidsN l i).map fun k=>Pr.mget t11 k V0))) []:=fun h1 h2=>by
   have:=V.run_ev (opsN t2 l i) ((kidsN l i).map fun k=>Pr.mget t11 k V0) (kidsN l i) ho (by rw [List.length_map];exact hk)
   rw [valF_ops _ _ _ _ h1,if_pos h2];exact this
  rcases ops_ev t1 t2 t3 t4 t5 t6 t7 t8 t9 t10 t11 g l z t14 t15 t16 t17 i with ho1 | ho1
  ·refine .inl ?_
   ((repeat apply Exists.intro);refine And.intro (Need.mk (ho1)) ?_)
   ((repeat apply Exists.intro);refine And.intro (Need.mk (leaf_tv g l z t14 t15 t16 t17 i)) ?_)
   refine ⟨fun h1=>?_,fun h1=>?_⟩
   ·((repeat apply Exists.intro);refine And.intro (Need.mk (tok_tv g l z t14 t15 t16 t17 i)) ?_)
    ((repeat apply Exists.intro);refine And.intro (Need.mk (text_ev t3 (tokN l i))) ?_)
    ((repeat apply Exists.intro);refine And.intro (Need.mk (leafc h1)) ?_)
    exact ⟨rfl,rfl⟩
   ·refine ⟨fun h2=>?_,fun h2=>⟨fun h3=>⟨⟨?_⟩,?_⟩,fun h3=>?_⟩⟩
    ·(simp only [dq1,dq2,dq3,dq4] at h2)
     ((repeat apply Exists.intro);refine And.intro (Need.mk (runc h1 (by omega))) ?_)
     exact ⟨rfl,rfl⟩
    ·(simp only [dq1,dq2,dq3,dq4] at h3);exact ⟨by omega,h3⟩
    ·(simp only [dq1,dq2,dq3,dq4] at h2);(simp only [dq1,dq2,dq3,dq4] at h3)
     rw [valF_ops _ _ _ _ h1,if_neg (by omega),if_pos (by omega)];exact ⟨rfl,rfl⟩
    ·(simp only [dq1,dq2,dq3,dq4] at h2);(simp only [dq1,dq2,dq3,dq4] at h3)
     ((repeat apply Exists.intro);refine And.intro (Need.mk (V.num_ev 0)) ?_)
     rw [valF_ops _ _ _ _ h1,if_neg (by omega),if_neg (by omega)];exact ⟨rfl,rfl⟩
  ·refine .inr ?_
   ((repeat apply Exists.intro);refine And.intro (Need.mk (ho1)) ?_)
   ((repeat apply Exists.intro);refine And.intro (Need.mk (leaf_tv g l z t14 t15 t16 t17 i)) ?_)
   refine ⟨fun h1=>?_,fun h1=>?_⟩
   ·((repeat apply Exists.intro);refine And.intro (Need.mk (tok_tv g l z t14 t15 t16 t17 i)) ?_)
    ((repeat apply Exists.intro);refine And.intro (Need.mk (text_ev t3 (tokN l i))) ?_)
    ((repeat apply Exists.intro);refine And.intro (Need.mk (leafc h1)) ?_)
    exact ⟨rfl,rfl⟩
   ·refine ⟨fun h2=>?_,fun h2=>⟨fun h3=>⟨⟨?_⟩,?_⟩,fun h3=>?_⟩⟩
    ·(simp only [dq1,dq2,dq3,dq4] at h2)
     ((repeat apply Exists.intro);refine And.intro (Need.mk (runc h1 (by omega))) ?_)
     exact ⟨rfl,rfl⟩
    ·(simp only [dq1,dq2,dq3,dq4] at h3);exact ⟨by omega,h3⟩
    ·(simp only [dq1,dq2,dq3,dq4] at h2);(simp only [dq1,dq2,dq3,dq4] at h3)
     rw [valF_ops _ _ _ _ h1,if_neg (by omega),if_pos (by omega)];exact ⟨rfl,rfl⟩
    ·(simp only [dq1,dq2,dq3,dq4] at h2);(simp only [dq1,dq2,dq3,dq4] at h3)
     ((repeat apply Exists.intro);refine And.intro (Need.mk (V.num_ev 0)) ?_)
     rw [valF_ops _ _ _ _ h1,if_neg (by omega),if_neg (by omega)];exact ⟨rfl,rfl⟩
end
end Go.Am.Z.W
