/-
  A part of the proof of a law: see the text that states it.
-/
import Derived.Test.YtfnnapgpcndcjaaGreatDoorX1
import Derived.Test.YtfnnapgpcndcjaaGreatDoorVcY
set_option linter.all false
namespace Go.Am.Z.W
open Go Go.Am.Z.T Go.Am.Z.V
set_option maxRecDepth 100000
theorem costN_31 {xs:List XT} (h:∀ x∈xs,sizeN x≤30) (l:List Th) (i:Int):costN (xs.map comp) l i≤31:=by
 rw [costN_eq]
 have h1:(comp (actX xs (ruleN l i))).length≤30:=by
  refine Nat.le_trans (comp_len _) ?_
  unfold actX
  split
  ·exact h _ (getD_mem' _ (by omega))
  ·simp [sizeN,sizeNL]
 split <;> omega
theorem drop_nil_iff {B:List Int} {q:Nat} (h:q≤B.length):B.drop q=[]↔q=B.length:=by
 constructor
 ·intro e
  have:=congrArg List.length e
  simp only [List.length_drop,List.length_nil] at this;omega
 ·intro e;rw [e];exact List.drop_length
theorem steps_law (s:Sml) (bs:List Int) (toks:List Tok) (xs:List XT) (text:List Int) (root:Int) (h0:InR tSm s) (h1:InR qt17 bs) (h3:InR (.slice .expr) xs) (h4:InR .str text) :
  E 5 [.tv [] tSm s,.tv [] qt17 bs,.tv [] (.slice tTok) toks,.tv [] (.slice .expr) xs,.tv [] .str text,iv root] [] (bv true) []:=by
 obtain ⟨bf,hbf,ef⟩:=Few_ev s 20 8 (sm_len h0)
 obtain ⟨bx,hbx,ex⟩:=few8_ev xs h3.1
 have hsm:=fun h=>smOK h0 (hbf h)
 have hpl:=fun h=>plan_ev s (hsm h)
 obtain ⟨x0,x1,a2,a3,a4,a5,a6,_⟩:=s
 refine ev_of (vc5 x0 x1 a2 a3 a4 a5 a6 bs toks xs text root _ ?_)
 ((repeat apply Exists.intro);refine And.intro (Need.mk (V.awake_ev)) ?_)
 ((repeat apply Exists.intro);refine And.intro (Need.mk (ef)) ?_)
 ((repeat apply Exists.intro);refine And.intro (Need.mk (ex)) ?_)
 refine ⟨fun _=>⟨rfl,rfl⟩,fun g1=>⟨fun _=>⟨rfl,rfl⟩,fun g2=>⟨fun _=>⟨rfl,rfl⟩,fun g3=>⟨fun _=>⟨rfl,rfl⟩,fun g4=>⟨fun _=>⟨rfl,rfl⟩,fun g5=>?_⟩⟩⟩⟩⟩
 have g1':bf=true:=(Bool.not_eq_false' _).mp g1
 have g2':bx=true:=(Bool.not_eq_false' _).mp g2
 (simp only [dq1,dq2,dq3,dq4] at g3);(simp only [dq1,dq2,dq3,dq4] at g4);(simp only [dq1,dq2,dq3,dq4] at g5)
 obtain ⟨hxl,hxs⟩:=hbx g2'
 obtain ⟨p,hp,ep⟩:=hpl g1'
 obtain ⟨g,z,gr,b,c,H,em⟩:=made_ev p hp bs (bytes_of h1) toks (by omega)
 generalize (madeL p toks bs).1=l at H em
 obtain ⟨p0,p1,p2,p3,p4,p5,_⟩:=p
 ((repeat apply Exists.intro);refine And.intro (Need.mk (ep)) ?_)
 refine .inl ?_
 ((repeat apply Exists.intro);refine And.intro (Need.mk (em)) ?_)
 refine ⟨nofun,fun _=>?_⟩
 have hlen:=H.len
 rw [List.length_append] at hlen
 have hll:l.length≤1000:=by omega
 have hrl:(toRL l).length=l.length:=List.length_map ..
 ((repeat apply Exists.intro);refine And.intro (Need.mk (len_tv g l z b 1000 b c)) ?_)
 refine ⟨fun q=>?_,fun _=>?_⟩
 ·(simp only [dq1,dq2,dq3,dq4] at q);omega
 have hok:=okL_ok hxs
 have h31:=costN_31 (okL_sz hxs)
 have hol:(okL xs).length≤30:=by unfold okL;rw [List.length_map];omega
 have hby:Byts text:=h4.2
 have hA:=acts_le hok
 ((repeat apply Exists.intro);refine And.intro (Need.mk (right13_ev xs hxl hxs)) ?_)
 ((repeat apply Exists.intro);refine And.intro (Need.mk (ops12_ev (okL xs) hol hok)) ?_)
 generalize hac:(okL xs).map comp=acts at h31 hA
 have hheld:heldK 100000=100000:=by decide
 have cm:=mnew_ev 100000
 rw [hheld] at cm
 ((repeat apply Exists.intro);refine And.intro (Need.mk (cm)) ?_)
 ((repeat apply Exists.intro);refine And.intro (Need.mk (new_ev acts text g l z b 1000 b c root 100000 0 0 H.tr hll)) ?_)
 refine ⟨nofun,fun _=>?_⟩
 ((repeat apply Exists.intro);refine And.intro (Need.mk (below_ev g l z b 1000 b c H.tr hll root)) ?_)
 have hsz:=tr_size H.tr root
 have hcq:∀ q,q≤(T.below l root).length→costQ acts l root q≤3100:=fun q hq=>by
  have:costQ acts l root q≤31 * q:=costG_le (h31 l) q
  have:31 * q≤31 * 100:=Nat.mul_le_mul_left _ (by omega)
  omega
 refine ⟨fun i m todo t2 t3 t4 ended e st fa fb fc g' y a1 b1 c1 gr1 rl ra rb rc g2 n2 cc2 gr2 n3=>∃ q:Nat,i=q∧q≤(T.below l root).length∧m=mapQ acts text l root q∧todo=(T.below l root).drop q∧t2=acts∧t3=text∧t4=root∧ended=decide ((T.below l root).drop q=[])∧e=(if T.below l root=[] then 2 else 0)∧st=q∧fa=100000∧fb=(costQ acts l root q:Int)∧g'=(g:Int)∧y=l++z∧a1=1000∧b1=b∧c1=c∧g2=(g:Int)∧n2=(l.length:Int)∧cc2=b,
  fun i _ _ _ _ _ _ _ _ _ _ _ _ _ _ _ _ _ _ _ _ _ _ _ _ _ _=>(((T.below l root).length:Int)-i).toNat,⟨tr0⟩,⟨0,tr0,by omega,tr0,tr0,tr0,tr0,tr0,tr0,tr0,tr0,tr0,by simp [costG],tr0,tr0,tr0,tr0,tr0,tr0,tr0,tr0⟩,?_⟩
 rintro _ _ _ t2 t3 t4 _ _ _ _ _ fc _ _ _ b1 c1 gr1 rl ra rb rc _ _ cc2 gr2 n3 ⟨q,rfl,hq,rfl,rfl,e2,e3,e4,rfl,rfl,rfl,rfl,rfl,rfl,rfl,rfl,e6,e7,rfl,rfl,e8⟩
 subst e2 e3 e4 e6 e7 e8
 refine ⟨fun k1=>?_,fun k1=>?_⟩
 ·(simp only [dq1,dq2,dq3,dq4] at k1)
  have hq':q<(T.below l t4).length:=by omega
  have hne:T.below l t4≠[]:=fun w=>by rw [w] at hq';simp at hq'
  have hdn:decide ((T.below l t4).drop q=[])=false:=decide_eq_false fun w=>by rw [drop_nil_iff hq] at w;omega
  have hdr:=drop_ne hq'
  have c2:=Value_ev ((T.below l t4).drop q) t2 t3 t4 false 0 (q:Int) 100000 (costQ t2 l t4 q:Int) fc (mapQ t2 t3 l t4 q) g l z cc2 1000 cc2 c1
  have c3:=steps_ev ((T.below l t4).drop q) t2 t3 t4 false 0 (q:Int) 100000 (costQ t2 l t4 q:Int) fc (mapQ t2 t3 l t4 q) g l z cc2 1000 cc2 c1
  have hst:costQ t2 l t4 (q+1)=costQ t2 l t4 q+costN t2 l ((T.below l t4).getD q 0):=costG_succ hq'
  have hc1:=hcq (q+1) (by omega)
  have c4:=step_ev t2 t3 t4 0 (q:Int) 100000 (costQ t2 l t4 q:Int) fc (mapQ t2 t3 l t4 q) g l z cc2 1000 cc2 c1 ((T.below l t4).getD q 0) ((T.below l t4).drop (q+1)) (H.tr.kidsN _) hby (by omega) (opsN_le hA _ _) (by omega) (by omega) (by decide) ⟨by omega,by omega⟩
  unfold stepH at c4
  rw [if_neg (by omega)] at c4
  have hcost:(costQ t2 l t4 q:Int)+(costN t2 l ((T.below l t4).getD q 0):Int)=(costQ t2 l t4 (q+1):Int):=by omega
  rw [hcost] at c4
  have hr0:resM false 0 (mapQ t2 t3 l t4 q) t4=V0:=by unfold resM;rw [if_neg (by simp)]
  rw [hr0] at c2
  simp only [hdn,if_neg hne]
  ((repeat apply Exists.intro);refine And.intro (Need.mk (c2)) ?_)
  refine ⟨fun w=>by simp at w,fun _=>⟨fun w=>by simp at w,fun _=>?_⟩⟩
  ((repeat apply Exists.intro);refine And.intro (Need.mk (c3)) ?_)
  refine ⟨fun w=>by simp at w,fun _=>?_⟩
  rw [hdr]
  ((repeat apply Exists.intro);refine And.intro (Need.mk (c4)) ?_)
  refine And.intro (Need.mk (by omega)) ?_
  have hbq:decide ((T.below l t4).drop (q+1)=[])=decide ((q:Int)=((T.below l t4).length:Int)-1):=by
   rw [decide_eq_decide,drop_nil_iff (by omega)];omega
  refine ⟨fun w=>by rw [hbq] at w;simp at w,fun _=>?_⟩
  refine And.intro (Need.mk (by omega)) (And.intro (Need.mk tr0) (And.intro ⟨q+1,by omega,by omega,tr0,tr0,tr0,tr0,tr0,tr0,tr0,by omega,tr0,tr0,tr0,tr0,tr0,tr0,tr0,tr0,tr0,tr0⟩ (Need.mk (by ((try dsimp only);omega)))))
 ·(simp only [dq1,dq2,dq3,dq4] at k1)
  have hqn:q=(T.below l t4).length:=by omega
  have hdn:decide ((T.below l t4).drop q=[])=true:=decide_eq_true ((drop_nil_iff hq).2 hqn)
  have c2:=Value_ev ((T.below l t4).drop q) t2 t3 t4 true (if T.below l t4=[] then 2 else 0) (q:Int) 100000 (costQ t2 l t4 q:Int) fc (mapQ t2 t3 l t4 q) g l z cc2 1000 cc2 c1
  have c3:=steps_ev ((T.below l t4).drop q) t2 t3 t4 true (if T.below l t4=[] then 2 else 0) (q:Int) 100000 (costQ t2 l t4 q:Int) fc (mapQ t2 t3 l t4 q) g l z cc2 1000 cc2 c1
  have c4:=step_end ((T.below l t4).drop q) t2 t3 t4 (if T.below l t4=[] then 2 else 0) (q:Int) 100000 (costQ t2 l t4 q:Int) fc (mapQ t2 t3 l t4 q) g l z cc2 1000 cc2 c1
  obtain ⟨v,ev,fb',fc',hR,ee⟩:=eval_ev t2 t3 t4 100000 g l z cc2 1000 cc2 c1 H.tr hll hby (by omega) hA (by decide) (by decide)
  have hsame:resM true (if T.below l t4=[] then 2 else 0) (mapQ t2 t3 l t4 q) t4=v∧(if T.below l t4=[] then (2:Int) else 0)=ev:=by
   by_cases hb:T.below l t4=[]
   ·obtain ⟨w1,w2,_⟩:=hR.no hb
    rw [if_pos hb,w1,w2]
    exact ⟨by unfold resM;rw [if_neg (by simp)],rfl⟩
   ·have hin:inR l t4=true:=by
     cases hx:inR l t4 with
     | true=>rfl
     | false=>exact absurd (below_out hx) hb
    have hc1:=hcq (T.below l t4).length (Nat.le_refl _)
    obtain ⟨w1,w2,_⟩:=hR.ok hb (by omega)
    rw [if_neg hb,w1,w2]
    refine ⟨?_,rfl⟩
    unfold resM
    rw [if_pos ⟨rfl,rfl⟩]
    have:=mapQ_told (acts:=t2) (text:=t3) H.tr hin q (by omega)
    rw [hqn] at this ⊢
    exact this.root H.tr hin
  obtain ⟨hs1,hs2⟩:=hsame
  have hlast:(decide (ev=0) == decide ((0:Int)<((T.below l t4).length:Int)))=true:=by
   by_cases hb:T.below l t4=[]
   ·rw [if_pos hb] at hs2;rw [← hs2,hb];rfl
   ·rw [if_neg hb] at hs2
    have:0<(T.below l t4).length:=List.length_pos_iff.2 hb
    rw [← hs2,decide_eq_true (by omega:(0:Int)<((T.below l t4).length:Int))];rfl
  simp only [hdn]
  rw [hs1,hs2] at c2
  rw [hs2] at c3 c4
  rw [hs2]
  obtain ⟨v0,v1,⟨⟩⟩:=v
  ((repeat apply Exists.intro);refine And.intro (Need.mk (c2)) ?_)
  ((repeat apply Exists.intro);refine And.intro (Need.mk (c4)) ?_)
  ((repeat apply Exists.intro);refine And.intro (Need.mk (c2)) ?_)
  ((repeat apply Exists.intro);refine And.intro (Need.mk (cm)) ?_)
  ((repeat apply Exists.intro);refine And.intro (Need.mk (ee)) ?_)
  refine ⟨fun _=>⟨fun _=>⟨fun _=>⟨fun _=>⟨fun _=>⟨fun _=>?_,fun w=>by simp at w⟩,fun w=>by simp at w⟩,fun w=>by simp at w⟩,fun w=>by simp at w⟩,fun w=>by simp at w⟩,fun w=>by simp at w⟩
  ((repeat apply Exists.intro);refine And.intro (Need.mk (c3)) ?_)
  refine ⟨fun _=>?_,fun w=>by (simp only [dq1,dq2,dq3,dq4] at w);omega⟩
  exact ⟨btrue hlast,tr0⟩
end Go.Am.Z.W
