/-
  A part of the proof of a law: see the text that states it.
-/
import Derived.Test.YtfnnapgpcndcjaaGreatDoorW7
import Derived.Test.YtfnnapgpcndcjaaGreatDoorVcX
import Derived.Test.YtfnnapgpcndcjaaGreatDoorAm4
set_option linter.all false
namespace Go.Am.Z.W
open Go Go.Am.Z.T Go.Am.Z.V
set_option maxRecDepth 100000
theorem bytes_of {l:List Int} (h:InR (.slice (.int .u8)) l):∀ x∈l,isBy x:=fun x hx=>by
 obtain ⟨i,hi,rfl⟩:=List.mem_iff_getElem.1 hx
 have:=h.2 i hi
 rw [List.getD_eq_getElem?_getD,List.getElem?_eq_getElem hi] at this
 exact u8_wf this
theorem smOK {s:Sml} (hi:InR tSm s) (h:s.2.2.1.length≤20∧s.2.2.2.2.2.1.length≤5∧∀ x∈s.2.2.2.1,x.length≤8):SmOK s:=by
 obtain ⟨x0,x1,a2,a3,a4,a5,a6,_⟩:=s
 simp only [InR] at hi
 obtain ⟨i0,i1,⟨_,i2⟩,⟨_,i3⟩,⟨_,i4⟩,⟨_,i5⟩,⟨_,i6⟩,_⟩:=hi
 have mem:∀ l:List Int,(∀ i,i<l.length→(Lit.int .u8 (l.getD i 0)).wf=true)→∀ x∈l,isBy x:=fun l h x hx=>by
  obtain ⟨i,hi,rfl⟩:=List.mem_iff_getElem.1 hx
  have:=h i hi
  rw [List.getD_eq_getElem?_getD,List.getElem?_eq_getElem hi] at this
  exact u8_wf this
 refine ⟨u8_wf i0,u8_wf i1,mem _ i2,fun l hl=>?_,mem _ i4,mem _ i5,mem _ i6,h.1,h.2.1,h.2.2⟩
 obtain ⟨i,hi,rfl⟩:=List.mem_iff_getElem.1 hl
 have:=(i3 i hi).2
 rw [List.getD_eq_getElem?_getD,List.getElem?_eq_getElem hi] at this
 exact mem _ this
theorem sm_len {s:Sml} (hi:InR tSm s):s.2.2.2.1.length≤maxLen:=by
 obtain ⟨x0,x1,a2,a3,a4,a5,a6,_⟩:=s
 simp only [InR] at hi
 exact hi.2.2.2.1.1
theorem btrue {c:Bool} (h:c=true):AV.tv [] .bool c=bv true:=by rw [h]
theorem ran_out {acts:List (List Op2)} {text:List Int} {l:List Th} {root fa:Int} {v:Val} {e fb:Int} (h:Ran acts text l root fa v e fb) (hr:inR l root=false):v=V0∧e=2∧fb=0:=h.no (below_out hr)
theorem below_ne {l:List Th} (h:Tr l) {root:Int} (hr:inR l root=true):T.below l root≠[]:=by
 rw [(tr_below h root hr).1];simp
theorem trees_law (s:Sml) (bs:List Int) (toks:List Tok) (xs:List XT) (text:List Int) (root fuel:Int) (h0:InR tSm s) (h1:InR (.slice (.int .u8)) bs) (h3:InR (.slice .expr) xs) (h4:InR .str text) :
  E 4 [.tv [] tSm s,.tv [] (.slice (.int .u8)) bs,.tv [] (.slice tTok) toks,.tv [] (.slice .expr) xs,.tv [] .str text,iv root,iv fuel] [] (bv true) []:=by
 obtain ⟨bf,hbf,ef⟩:=Few_ev s 20 8 (sm_len h0)
 obtain ⟨bx,hbx,ex⟩:=few8_ev xs h3.1
 have hsm:=fun h=>smOK h0 (hbf h)
 have hpl:=fun h=>plan_ev s (hsm h)
 obtain ⟨x0,x1,a2,a3,a4,a5,a6,_⟩:=s
 refine ev_of (vc4 x0 x1 a2 a3 a4 a5 a6 bs toks xs text root fuel _ ?_)
 ((repeat apply Exists.intro);refine And.intro (Need.mk (V.awake_ev)) ?_)
 ((repeat apply Exists.intro);refine And.intro (Need.mk (ef)) ?_)
 ((repeat apply Exists.intro);refine And.intro (Need.mk (ex)) ?_)
 refine ⟨fun _=>⟨rfl,rfl⟩,fun g1=>⟨fun _=>⟨rfl,rfl⟩,fun g2=>⟨fun _=>⟨rfl,rfl⟩,fun g3=>⟨fun _=>⟨rfl,rfl⟩,fun g4=>⟨fun _=>⟨rfl,rfl⟩,fun g5=>?_⟩⟩⟩⟩⟩
 have g1':bf=true:=(Bool.not_eq_false' _).mp g1
 have g2':bx=true:=(Bool.not_eq_false' _).mp g2
 (simp only [dq1,dq2,dq3,dq4] at g3);(simp only [dq1,dq2,dq3,dq4] at g4);(simp only [dq1,dq2,dq3,dq4] at g5)
 obtain ⟨hxl,hxs⟩:=hbx g2'
 obtain ⟨p,hp,ep⟩:=hpl g1'
 obtain ⟨g,z,gr,b,c,H,em⟩:=made_ev p hp bs (bytes_of h1) toks (by omega)
 generalize (madeL p toks bs).1=l at H em
 obtain ⟨p0,p1,p2,p3,p4,p5,_⟩:=p
 ((repeat apply Exists.intro);refine And.intro (Need.mk (ep)) ?_)
 refine .inl ?_
 ((repeat apply Exists.intro);refine And.intro (Need.mk (em)) ?_)
 refine ⟨nofun,fun _=>?_⟩
 have hlen:=H.len
 rw [List.length_append] at hlen
 have hll:l.length≤1000:=by omega
 have hrl:(toRL l).length=l.length:=List.length_map ..
 ((repeat apply Exists.intro);refine And.intro (Need.mk (len_tv g l z b 1000 b c)) ?_)
 refine ⟨fun q=>?_,fun _=>?_⟩
 ·(simp only [dq1,dq2,dq3,dq4] at q);omega
 have hok:=okL_ok hxs
 have hol:(okL xs).length≤30:=by unfold okL;rw [List.length_map];omega
 have hby:Byts text:=h4.2
 ((repeat apply Exists.intro);refine And.intro (Need.mk (right13_ev xs hxl hxs)) ?_)
 ((repeat apply Exists.intro);refine And.intro (Need.mk (mnew_ev fuel)) ?_)
 ((repeat apply Exists.intro);refine And.intro (Need.mk (ops12_ev (okL xs) hol hok)) ?_)
 have hfd:=held_bd fuel
 obtain ⟨v,e,fb,fc,hR,ee⟩:=eval_ev ((okL xs).map comp) text root (heldK fuel) g l z b 1000 b c H.tr hll hby (by omega) (acts_le hok) hfd.1 hfd.2
 obtain ⟨v0,v1,⟨⟩⟩:=v
 ((repeat apply Exists.intro);refine And.intro (Need.mk (ee)) ?_)
 have hout:inR l root=false→v0=0∧v1=0∧e=2∧fb=0:=fun h=>by
  obtain ⟨q1,q2,q3⟩:=ran_out hR h
  simp only [Prod.mk.injEq] at q1
  exact ⟨q1.1,q1.2.1,q2,q3⟩
 refine ⟨fun q1=>⟨fun _=>?_,nofun⟩,fun q1=>⟨fun q2=>⟨fun _=>?_,nofun⟩,fun q2=>?_⟩⟩
 ·(simp only [dq1,dq2,dq3,dq4] at q1)
  obtain ⟨rfl,rfl,rfl,rfl⟩:=hout (by unfold inR;rw [decide_eq_false (by omega)];rfl)
  refine ⟨fun _=>⟨fun _=>?_,nofun⟩,nofun⟩
  ((repeat apply Exists.intro);refine And.intro (Need.mk (used_ev (heldK fuel) 0 fc)) ?_)
  exact ⟨rfl,rfl⟩
 ·(simp only [dq1,dq2,dq3,dq4] at q1);(simp only [dq1,dq2,dq3,dq4] at q2)
  obtain ⟨rfl,rfl,rfl,rfl⟩:=hout (by unfold inR;rw [decide_eq_false (p:=root<(l.length:Int)) (by omega)];simp)
  refine ⟨fun _=>⟨fun _=>?_,nofun⟩,nofun⟩
  ((repeat apply Exists.intro);refine And.intro (Need.mk (used_ev (heldK fuel) 0 fc)) ?_)
  exact ⟨rfl,rfl⟩
 ·(simp only [dq1,dq2,dq3,dq4] at q1);(simp only [dq1,dq2,dq3,dq4] at q2)
  have hin:inR l root=true:=by rw [inR_iff];omega
  have hne:=below_ne H.tr hin
  ((repeat apply Exists.intro);refine And.intro (Need.mk (cost_ev (okL xs) gr l 1000 b c root H.tr hll hok)) ?_)
  ((repeat apply Exists.intro);refine And.intro (Need.mk (rheld_ev fuel)) ?_)
  refine ⟨fun q3=>⟨fun _=>?_,nofun⟩,fun q3=>⟨fun _=>?_,nofun⟩⟩
  ·(simp only [dq1,dq2,dq3,dq4] at q3)
   obtain ⟨w1,rfl,w3⟩:=hR.few hne q3
   simp only [Prod.mk.injEq] at w1
   obtain ⟨rfl,rfl,_⟩:=w1
   refine ⟨fun _=>⟨fun _=>?_,nofun⟩,nofun⟩
   ((repeat apply Exists.intro);refine And.intro (Need.mk (used_ev (heldK fuel) fb fc)) ?_)
   ((repeat apply Exists.intro);refine And.intro (Need.mk (rheld_ev fuel)) ?_)
   exact ⟨btrue (decide_eq_true w3),rfl⟩
  ·(simp only [dq1,dq2,dq3,dq4] at q3)
   obtain ⟨w1,rfl,w3⟩:=hR.ok hne (by omega)
   have et:=rtree_tv gr 1000 b c H.tr hll hby (by omega) hok root.toNat root (Nat.le_refl _) hin
   rw [← w1] at et
   ((repeat apply Exists.intro);refine And.intro (Need.mk (et)) ?_)
   refine ⟨fun _=>⟨fun _=>?_,nofun⟩,fun q=>by simp at q⟩
   ((repeat apply Exists.intro);refine And.intro (Need.mk (used_ev (heldK fuel) fb fc)) ?_)
   exact ⟨btrue (decide_eq_true w3),rfl⟩
end Go.Am.Z.W
