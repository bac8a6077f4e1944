/-
  A part of the proof of a law: see the text that states it.
-/
import Derived.Test.YtfnnapgpcndcjaaGreatDoorX2
import Derived.Test.YtfnnapgpcndcjaaGreatDoorVcZ
set_option linter.all false
namespace Go.Am.Z.W
open Go Go.Am.Z.T Go.Am.Z.V
set_option maxRecDepth 100000
theorem valF_ext {l l':List Th} (h:T.Ext l l') (acts:List (List Op2)) (text:List Int) {i:Int} (hi:inR l i=true) (vs:List Val):valF acts text l' i vs=valF acts text l i vs:=by
 obtain ⟨h1,h2,h3,h4,h5⟩:=h.same hi
 unfold valF opsN
 rw [h1,h3,h4,h5]
theorem local_law (s:Sml) (bs cs:List Int) (toks:List Tok) (xs:List XT) (text:List Int) (root:Int) (h0:InR tSm s) (h1:InR qt17 bs) (h2:InR qt17 cs) (h3:InR (.slice .expr) xs) (h4:InR .str text) (h5:InR (.int .u8) root) :
  E 3 [.tv [] tSm s,.tv [] qt17 bs,.tv [] qt17 cs,.tv [] (.slice tTok) toks,.tv [] (.slice .expr) xs,.tv [] .str text,.tv [] (.int .u8) root] [] (bv true) []:=by
 obtain ⟨bf,hbf,ef⟩:=Few_ev s 20 8 (sm_len h0)
 obtain ⟨bx,hbx,ex⟩:=few8_ev xs h3.1
 have hsm:=fun h=>smOK h0 (hbf h)
 have hpl:=fun h=>plan_ev s (hsm h)
 have hroot:0≤root∧root<256:=u8_wf h5
 obtain ⟨x0,x1,a2,a3,a4,a5,a6,_⟩:=s
 refine ev_of (vc3 x0 x1 a2 a3 a4 a5 a6 bs cs toks xs text root _ ?_)
 ((repeat apply Exists.intro);refine And.intro (Need.mk (V.awake_ev)) ?_)
 ((repeat apply Exists.intro);refine And.intro (Need.mk (ef)) ?_)
 ((repeat apply Exists.intro);refine And.intro (Need.mk (ex)) ?_)
 refine ⟨fun _=>⟨rfl,rfl⟩,fun g1=>⟨fun _=>⟨rfl,rfl⟩,fun g2=>⟨fun _=>⟨rfl,rfl⟩,fun g3=>⟨fun _=>⟨rfl,rfl⟩,fun g3'=>⟨fun _=>⟨rfl,rfl⟩,fun g4=>⟨fun _=>⟨rfl,rfl⟩,fun g5=>?_⟩⟩⟩⟩⟩⟩
 have g1':bf=true:=(Bool.not_eq_false' _).mp g1
 have g2':bx=true:=(Bool.not_eq_false' _).mp g2
 (simp only [dq1,dq2,dq3,dq4] at g3);(simp only [dq1,dq2,dq3,dq4] at g3');(simp only [dq1,dq2,dq3,dq4] at g4);(simp only [dq1,dq2,dq3,dq4] at g5)
 obtain ⟨hxl,hxs⟩:=hbx g2'
 obtain ⟨p,hp,ep⟩:=hpl g1'
 have hmem:∀ b∈[]++bs++cs,isBy b:=fun b hb=>by
  rw [List.nil_append] at hb
  rcases List.mem_append.1 hb with hb | hb
  ·exact bytes_of h1 b hb
  ·exact bytes_of h2 b hb
 obtain ⟨g,z,gr,b,c,H,em⟩:=made_ev p hp bs (bytes_of h1) toks (by omega)
 obtain ⟨g',z',gr',b',c',H',em'⟩:=made_ev p hp ([]++bs++cs) hmem toks (by simp only [List.nil_append,List.length_append];omega)
 have hext:T.Ext (madeL p toks bs).1 (madeL p toks ([]++bs++cs)).1:=by rw [List.nil_append];exact madeL_ext p toks bs cs
 generalize (madeL p toks bs).1=l at H em hext
 generalize (madeL p toks ([]++bs++cs)).1=l' at H' em' hext
 obtain ⟨p0,p1,p2,p3,p4,p5,_⟩:=p
 ((repeat apply Exists.intro);refine And.intro (Need.mk (ep)) ?_)
 refine .inl ?_
 ((repeat apply Exists.intro);refine And.intro (Need.mk (em)) ?_)
 refine And.intro (Need.mk (by unfold bigN;omega)) (And.intro (Need.mk (by simp only [List.nil_append,bigN];omega)) ?_)
 refine .inl ?_
 ((repeat apply Exists.intro);refine And.intro (Need.mk (em')) ?_)
 refine ⟨nofun,fun _=>⟨nofun,fun _=>?_⟩⟩
 have hlen:=H.len
 rw [List.length_append] at hlen
 have hll:l.length≤1000:=by omega
 have hlen':=H'.len
 rw [List.length_append] at hlen'
 have hll':l'.length≤1000:=by omega
 ((repeat apply Exists.intro);refine And.intro (Need.mk (len_tv g l z b 1000 b c)) ?_)
 refine ⟨fun _=>⟨fun _=>⟨fun _=>⟨rfl,rfl⟩,nofun⟩,nofun⟩,fun q=>?_⟩
 (simp only [dq1,dq2,dq3,dq4] at q)
 refine And.intro (Need.mk (by omega)) ?_
 ((repeat apply Exists.intro);refine And.intro (Need.mk (len_tv g l z b 1000 b c)) ?_)
 refine And.intro (Need.mk (by omega)) (And.intro (Need.mk (by intro hh;cases hh.1)) ?_)
 have hok:=okL_ok hxs
 have h31:=costN_31 (okL_sz hxs)
 have hol:(okL xs).length≤30:=by unfold okL;rw [List.length_map];omega
 have hby:Byts text:=h4.2
 have hA:=acts_le hok
 ((repeat apply Exists.intro);refine And.intro (Need.mk (right13_ev xs hxl hxs)) ?_)
 ((repeat apply Exists.intro);refine And.intro (Need.mk (ops12_ev (okL xs) hol hok)) ?_)
 generalize (okL xs).map comp=acts at h31 hA
 have hheld:heldK 100000=100000:=by decide
 have cm:=mnew_ev 100000
 rw [hheld] at cm
 have htm:=T.tm (n:=(l.length:Int)) hroot.1 (by omega)
 generalize Int.tmod root (l.length:Int)=i at htm
 have hin:inR l i=true:=by rw [inR_iff];omega
 have hin':=(hext.same hin).1
 have hi':inR l' i=true:=(hext.at hin).1
 obtain ⟨v,e,fb,fc,hR,ee⟩:=eval_ev acts text i 100000 g l z b 1000 b c H.tr hll hby (by omega) hA (by decide) (by decide)
 obtain ⟨v',e',fb',fc',hR',ee'⟩:=eval_ev acts text i 100000 g' l' z' b' 1000 b' c' H'.tr hll' hby (by omega) hA (by decide) (by decide)
 have hcq:∀ l:List Th,Tr l→l.length≤100→(costQ acts l i (T.below l i).length:Int)≤100000:=fun l ht hl=>by
  have h1:costQ acts l i (T.below l i).length≤31 * (T.below l i).length:=costG_le (h31 l) _
  have h2:=tr_size ht i
  have:31 * (T.below l i).length≤31 * 100:=Nat.mul_le_mul_left _ (by omega)
  omega
 obtain ⟨w1,w2,_⟩:=hR.ok (below_ne H.tr hin) (hcq l H.tr (by omega))
 obtain ⟨w1',w2',_⟩:=hR'.ok (below_ne H'.tr hi') (hcq l' H'.tr (by omega))
 have hv:v'=v:=by
  rw [w1,w1']
  exact treeN_ext H.tr H'.tr (fun j hj=>⟨(hext.at hj).1,(hext.same hj).2.2.2.1,fun vs=>valF_ext hext acts text hj vs⟩) i.toNat i (Nat.le_refl _) hin
 subst hv w2 w2'
 clear w1 w1' hR hR'
 obtain ⟨v0,v1,⟨⟩⟩:=v'
 ((repeat apply Exists.intro);refine And.intro (Need.mk (cm)) ?_)
 ((repeat apply Exists.intro);refine And.intro (Need.mk (ee)) ?_)
 ((repeat apply Exists.intro);refine And.intro (Need.mk (cm)) ?_)
 ((repeat apply Exists.intro);refine And.intro (Need.mk (ee')) ?_)
 exact ⟨fun _=>⟨fun _=>⟨fun _=>⟨rfl,rfl⟩,nofun⟩,fun w=>by simp at w⟩,nofun⟩
end Go.Am.Z.W
