/-
  A part of the proof of a law: see the text that states it.
-/
import Derived.Test.YtggaihkjnomflaaGreatDoorZC
import Derived.Test.YtggaihkjnomflaaGreatDoorVcL
import Derived.Test.YtggaihkjnomflaaGreatDoorZG
import Derived.Test.YtggaihkjnomflaaGreatDoorPG
set_option linter.all false
namespace Go.Am.N
open Go Go.Am.Pr Go.Am.N.L
set_option maxRecDepth 100000
theorem i6Z {c:Int} (h:0≤c∧c<256):csZ c=decide (c=95∨(97≤c∧c≤122)∨(65≤c∧c≤90)):=by
 have:∀ n:Nat,n<256→csZ (n:Int)=decide ((n:Int)=95∨(97≤(n:Int)∧(n:Int)≤122)∨(65≤(n:Int)∧(n:Int)≤90)):=by decide +kernel
 have:=this c.toNat (by omega)
 have e:((c.toNat:Nat):Int)=c:=by omega
 rw [e] at this;exact this
theorem m1Z (c:Int) (hc:0≤c∧c<256):E 89 [.tv [] (.int .u8) c] [] (bv (csZ c)) []:=by
 refine arZ (vuZ c _ ?_)
 rw [i6Z hc]
 (repeat' (first | (intro _) | (refine And.intro ?_ ?_) | (refine Need.mk ?_)))
 all_goals (try exact rfl)
 all_goals (refine tvB ?_;simp only [decide_eq_true_eq,decide_eq_false_iff_not] at *;rw [eq_comm])
 all_goals first
  | (rw [decide_eq_true_eq];omega)
  | (rw [decide_eq_false_iff_not];omega)
  | (refine decide_eq_decide.2 ?_;omega)
theorem nXZ (c:Int):E 90 [.tv [] (.int .u8) c] [] (bv (decide (48≤c)&&decide (c≤57))) []:=by
 refine arZ (waZ c _ ⟨fun h=>?_,fun h=>?_⟩)
 ·rw [h];exact ⟨rfl,rfl⟩
 ·rw [h];exact ⟨rfl,rfl⟩
theorem lmZ (p:Int→Bool):∀ (s:List Int),(∀ c∈s,p c=true)→bYZ p s=s.length
 | [],_=>rfl
 | c::s,h=>by rw [bYZ,if_pos (h c (List.mem_cons_self ..)),lmZ p s fun b hb=>h b (List.mem_cons_of_mem _ hb)];rfl
theorem qbZ (s:List Int) (hl:s.length≤100000000) (hs:∀ c∈s,0≤c∧c<256):E 71 [sv s] [] (bv (gvZ s)) []:=by
 have no:∀ k,k<s.length→aZZ (s.getD k 0)=false→gvZ s=false:=by
  intro k hk hp
  cases hn:gvZ s with
  | false=>rfl
  | true =>
   unfold gvZ at hn
   simp only [Bool.and_eq_true,Bool.not_eq_true',decide_eq_true_eq,decide_eq_false_iff_not] at hn
   have:=l5Z aZZ s hn.2 _ (ahZ (0:Int) s k hk)
   rw [hp] at this;cases this
 refine arZ (vlZ s _ ?_)
 refine ⟨fun z=>∃ k:Nat,z=k∧k≤s.length∧(∀ c∈s.take k,aZZ c=true)∧(0<k→csZ (s.getD 0 0)=true),fun z=>((s.length:Int)-z).toNat,⟨0,rfl,by omega,by simp,by omega⟩,?_⟩
 rintro z ⟨k,rfl,hk,hv,h0⟩
 refine ⟨fun h=>?_,fun h=>?_⟩
 ·(simp only [dq1,dq2,dq3,dq4] at h)
  have hk':k<s.length:=by omega
  have hm:=ahZ (0:Int) s k hk'
  rw [Int.toNat_natCast]
  have next:aZZ (s.getD k 0)=true→(∀ c∈s.take (k+1),aZZ c=true):=by
   intro hp c hc
   rw [aaZ (0:Int) hk'] at hc
   rcases List.mem_append.1 hc with q | q
   ·exact hv c q
   ·rw [List.mem_singleton] at q;subst q;exact hp
  refine ⟨⟨by omega⟩,_,⟨m1Z _ (hs _ hm)⟩,fun h1=>⟨fun h2=>⟨tvB ?_,rfl⟩,fun h2=>⟨⟨by omega⟩,_,⟨nXZ _⟩,fun h3=>⟨tvB ?_,rfl⟩,fun h3=>⟨⟨by omega⟩,⟨k+1,by omega,by omega,?_,?_⟩,⟨by ((try dsimp only);omega)⟩⟩⟩⟩,fun h1=>⟨⟨by omega⟩,⟨k+1,by omega,by omega,?_,?_⟩,⟨by ((try dsimp only);omega)⟩⟩⟩
  ·(simp only [dq1,dq2,dq3,dq4] at h1 h2)
   have:k=0:=by omega
   subst this
   unfold gvZ
   rw [h1];simp
  ·(simp only [dq1,dq2,dq3,dq4] at h1 h3)
   rw [no k hk' (by unfold aZZ;rw [h1,h3];rfl)]
  ·(simp only [dq1,dq2,dq3,dq4] at h1 h3)
   exact next (by unfold aZZ;rw [h3];simp)
  ·(simp only [dq1,dq2,dq3,dq4] at h2)
   intro _;exact h0 (by omega)
  ·(simp only [dq1,dq2,dq3,dq4] at h1)
   exact next (by unfold aZZ;rw [h1];rfl)
  ·(simp only [dq1,dq2,dq3,dq4] at h1)
   intro _
   by_cases hk0:k=0
   ·subst hk0;exact h1
   ·exact h0 (by omega)
 ·(simp only [dq1,dq2,dq3,dq4] at h)
  rw [List.take_of_length_le (by omega)] at hv
  refine ⟨tvB ?_,rfl⟩
  unfold gvZ
  rw [lmZ aZZ s hv]
  by_cases he:s=[]
  ·subst he;rfl
  ·have:=List.length_pos_iff.2 he
   rw [h0 (by omega)];simp [he]
theorem c8Z (s:List Int) (hs:∀ c∈s,0≤c∧c<256):E 51 [sv s] [] (bv (a4Z s)) []:=by
 refine arZ (vGZ s _ ⟨fun h=>?_,fun h=>?_⟩)
 ·(simp only [dq1,dq2,dq3,dq4] at h)
  refine ⟨_,⟨qbZ s (by omega) hs⟩,tvB ?_,rfl⟩
  rw [a4Z,decide_eq_true (show s.length≤32 by omega),Bool.true_and]
 ·(simp only [dq1,dq2,dq3,dq4] at h)
  refine ⟨tvB ?_,rfl⟩
  rw [a4Z,decide_eq_false (show ¬ s.length≤32 by omega),Bool.false_and]
theorem lXZ (p:Pat) (hl:p.2.1.length≤100000000):E 52 [.tv [] knZ p] [] (bv (g2Z p)) []:=by
 obtain ⟨t,s,m,⟨⟩⟩:=p
 dsimp only at hl
 refine arZ (vsZ t s m _ ⟨fun h=>?_,fun h=>?_⟩)
 ·simp only [Bool.not_eq_true',decide_eq_false_iff_not] at h
  rw [g2Z,if_pos h]
  refine ⟨fun h1=>⟨fun h2=>⟨tvB ?_,rfl⟩,fun h2=>⟨tvB ?_,rfl⟩⟩,fun h1=>⟨tvB ?_,rfl⟩⟩
  ·(simp only [dq1,dq2,dq3,dq4] at h1 h2)
   rw [decide_eq_true (show t.length≤32 by omega),decide_eq_true h2];rfl
  ·(simp only [dq1,dq2,dq3,dq4] at h1 h2)
   rw [decide_eq_false h2,Bool.and_false];rfl
  ·(simp only [dq1,dq2,dq3,dq4] at h1)
   rw [decide_eq_false (show ¬ t.length≤32 by omega)];rfl
 ·simp only [Bool.not_eq_false',decide_eq_true_eq] at h
  rw [g2Z,if_neg (fun q=>q h)]
  refine ⟨fun z=>∃ k:Nat,z=((k+1:Nat):Int)∧k≤s.length∧iZZ (s.drop k)=iZZ s,fun z=>((s.length:Int)-z).toNat,⟨0,rfl,by omega,rfl⟩,?_⟩
  rintro z ⟨k,rfl,hk,hv⟩
  refine ⟨fun h1=>?_,fun h1=>?_⟩
  ·(simp only [dq1,dq2,dq3,dq4] at h1)
   have e1:(((k+1:Nat):Int)-1).toNat=k:=by omega
   rw [e1,Int.toNat_natCast]
   rw [jDZ (by omega)] at hv
   refine ⟨⟨by omega⟩,⟨by omega⟩,⟨by omega⟩,fun h2=>⟨tvB ?_,rfl⟩,fun h2=>⟨⟨by omega⟩,⟨k+1,by omega,by omega,?_⟩,⟨by ((try dsimp only);omega)⟩⟩⟩
   ·(simp only [dq1,dq2,dq3,dq4] at h2)
    rw [if_pos h2] at hv
    rw [← hv];rfl
   ·(simp only [dq1,dq2,dq3,dq4] at h2)
    rw [if_neg h2] at hv;exact hv
  ·(simp only [dq1,dq2,dq3,dq4] at h1)
   have e:iZZ (s.drop k)=true:=by
    have hd:(s.drop k).length≤1:=by rw [List.length_drop];omega
    match s.drop k,hd with
    | [],_=>rfl
    | [a],_=>rfl
   rw [e] at hv
   refine ⟨tvB ?_,rfl⟩
   rw [← hv,Bool.true_and]
theorem l1Z (s:List Int):E 53 [sv s] [] (bv (kpZ s)) []:=by
 refine arZ (u5Z s _ ⟨fun h=>?_,fun h=>?_⟩)
 ·(simp only [dq1,dq2,dq3,dq4] at h)
  refine ⟨tvB ?_,rfl⟩
  rw [kpZ,decide_eq_false (by omega)];rfl
 (simp only [dq1,dq2,dq3,dq4] at h)
 have e0:kpZ s=c9Z 1 s:=by rw [kpZ,decide_eq_true (by omega),Bool.true_and]
 rw [e0]
 refine ⟨fun d z=>∃ k:Nat,z=k∧k≤s.length∧1≤d∧d≤4∧c9Z d (s.drop k)=c9Z 1 s,fun _ z=>((s.length:Int)-z).toNat,⟨0,rfl,by omega,by omega,by omega,rfl⟩,?_⟩
 rintro d z ⟨k,rfl,hk,hd1,hd4,hv⟩
 refine ⟨fun h1=>?_,fun h1=>?_⟩
 ·(simp only [dq1,dq2,dq3,dq4] at h1)
  have hk':k<s.length:=by omega
  rw [aHZ (0:Int) hk',c9Z] at hv
  rw [Int.toNat_natCast]
  refine ⟨⟨by omega⟩,fun h2=>⟨⟨by omega⟩,⟨by omega⟩,fun h3=>?_,fun h3=>⟨fun h4=>⟨tvB ?_,rfl⟩,fun h4=>⟨fun h5=>?_,fun h5=>⟨⟨by omega⟩,⟨k+1,by omega,by omega,by omega,?_,?_⟩,⟨by ((try dsimp only);omega)⟩⟩⟩⟩⟩,fun h2=>⟨⟨by omega⟩,fun h3=>⟨⟨by omega⟩,fun h4=>?_,fun h4=>⟨fun h5=>⟨tvB ?_,rfl⟩,fun h5=>⟨⟨by omega⟩,⟨k+1,by omega,by omega,?_,by omega,?_⟩,⟨by ((try dsimp only);omega)⟩⟩⟩⟩,fun h3=>⟨fun h4=>?_,fun h4=>⟨fun h5=>?_,fun h5=>⟨⟨by omega⟩,⟨k+1,by omega,by omega,by omega,by omega,?_⟩,⟨by ((try dsimp only);omega)⟩⟩⟩⟩⟩⟩
  ·(simp only [dq1,dq2,dq3,dq4] at h2 h3);omega
  ·(simp only [dq1,dq2,dq3,dq4] at h2 h3 h4)
   rw [if_pos h2,if_pos (.inl h4)] at hv;rw [← hv]
  ·(simp only [dq1,dq2,dq3,dq4] at h5);omega
  ·(simp only [dq1,dq2,dq3,dq4] at h4);omega
  ·(simp only [dq1,dq2,dq3,dq4] at h2 h4 h5)
   rw [if_pos h2,if_neg (by omega)] at hv;exact hv
  ·(simp only [dq1,dq2,dq3,dq4] at h4);omega
  ·(simp only [dq1,dq2,dq3,dq4] at h2 h3 h5)
   rw [if_neg h2,if_pos h3,if_pos (.inr h5)] at hv;rw [← hv]
  ·(simp only [dq1,dq2,dq3,dq4] at h5);omega
  ·(simp only [dq1,dq2,dq3,dq4] at h2 h3 h5)
   rw [if_neg h2,if_pos h3,if_neg (by omega)] at hv;exact hv
  ·(simp only [dq1,dq2,dq3,dq4] at h4);omega
  ·(simp only [dq1,dq2,dq3,dq4] at h5);omega
  ·(simp only [dq1,dq2,dq3,dq4] at h2 h3)
   rw [if_neg h2,if_neg h3,if_neg (by omega)] at hv;exact hv
 ·(simp only [dq1,dq2,dq3,dq4] at h1)
  rw [List.drop_eq_nil_of_le (by omega),c9Z] at hv
  refine ⟨tvB ?_,rfl⟩
  rw [← hv]
end Go.Am.N
namespace Go.Am.N
open Go Go.Am.Pr Go.Am.N.L
set_option maxRecDepth 100000
abbrev ByN (l:List qT0):Prop:=∀ s∈l,∀ c∈s,0≤c∧c<256
theorem lPZ (l:List qT0) (hl:l.length≤100000000) (hb:ByN l):E 54 [.tv [] bPZ l] [] (bv (crZ l)) []:=by
 refine arZ (vNZ l _ ?_)
 refine ⟨fun z=>∃ k:Nat,z=k∧k≤l.length∧crZ (l.take k)=true,fun z=>((l.length:Int)-z).toNat,⟨0,rfl,by omega,rfl⟩,?_⟩
 rintro z ⟨k,rfl,hk,hv⟩
 unfold crZ at hv
 simp only [Bool.and_eq_true,decide_eq_true_eq] at hv
 refine ⟨fun h=>?_,fun h=>?_⟩
 ·(simp only [dq1,dq2,dq3,dq4] at h)
  have hk':k<l.length:=by omega
  rw [Int.toNat_natCast]
  refine ⟨⟨by omega⟩,_,⟨c8Z _ (hb _ (ahZ _ l _ hk'))⟩,fun h2=>⟨tvB ?_,rfl⟩,fun h2=>?_⟩
  ·(simp only [dq1,dq2,dq3,dq4] at h2)
   rw [crZ,aDZ hk' h2];rfl
  (simp only [dq1,dq2,dq3,dq4] at h2)
  refine ⟨fun z=>∃ j:Nat,z=j∧j≤k∧l.getD k [] ∉ l.take j,fun z=>((k:Int)-z).toNat,⟨0,rfl,by omega,by simp⟩,?_⟩
  rintro z ⟨j,rfl,hj,hn⟩
  refine ⟨fun h3=>?_,fun h3=>?_⟩
  ·(simp only [dq1,dq2,dq3,dq4] at h3)
   have hj':j<l.length:=by omega
   rw [Int.toNat_natCast]
   refine ⟨⟨by omega⟩,⟨by omega⟩,fun h4=>⟨tvB ?_,rfl⟩,fun h4=>⟨⟨by omega⟩,⟨j+1,by omega,by omega,?_⟩,⟨by ((try dsimp only);omega)⟩⟩⟩
   ·(simp only [dq1,dq2,dq3,dq4] at h4)
    rw [crZ,decide_eq_false (fun q=>?_),Bool.and_false]
    have q2:(l.take (k+1)).Nodup:=List.Nodup.sublist (List.take_sublist _ _) q
    rw [aaZ ([]:List Int) hk',cCZ] at q2
    refine q2.2 ?_
    rw [← h4,show l.getD j []=(l.take k).getD j [] by
     rw [List.getD_eq_getElem?_getD,List.getD_eq_getElem?_getD,List.getElem?_take,if_pos (by omega)]]
    exact ahZ _ _ _ (by rw [List.length_take];omega)
   ·(simp only [dq1,dq2,dq3,dq4] at h4)
    rw [aaZ ([]:List Int) hj',List.mem_append,List.mem_singleton]
    rintro (q | q)
    ·exact hn q
    ·exact h4 q.symm
  ·(simp only [dq1,dq2,dq3,dq4] at h3)
   have:j=k:=by omega
   subst this
   refine ⟨⟨by omega⟩,⟨j+1,by omega,by omega,?_⟩,⟨by ((try dsimp only);omega)⟩⟩
   rw [crZ,aaZ ([]:List Int) hk',baZ,hv.1,h2,decide_eq_true (cCZ.2 ⟨hv.2,hn⟩)];rfl
 ·(simp only [dq1,dq2,dq3,dq4] at h)
  rw [List.take_of_length_le (by omega)] at hv
  refine ⟨tvB ?_,rfl⟩
  rw [crZ,hv.1,decide_eq_true hv.2];rfl
structure ByG (g:Gr):Prop where
 tk:∀ t∈g.1,∀ c∈t.1,0≤c∧c<256
 lv:∀ x∈g.2.2.1,ByN x.2.1
 st:∀ c∈g.2.2.2.1,0≤c∧c<256
 rl:∀ r∈g.2.2.2.2.1,(∀ c∈r.1,0≤c∧c<256)∧ByN r.2.1∧(∀ c∈r.2.2.1,0≤c∧c<256)∧rbZ r
end Go.Am.N
namespace Go.Am.N
open Go Go.Am.Pr Go.Am.N.L
set_option maxRecDepth 100000
theorem pkZ (g:Gr) (hg:Bd g 1048576) (hb:ByG g):E 28 [.tv [] tGr g] [] (bv (clZ g)) []:=by
  have hR:=c7Z g
  obtain ⟨tk,sk,lv,st,rl,⟨⟩⟩:=g
  have f1:=hg.tk
  have f2:=hg.tks
  have f3:=hg.sk
  have f4:=hg.sks
  have f5:=hg.lv
  have f6:=hg.lvs
  have f7:=hg.rl
  have b1:=hb.tk
  have b3:=hb.lv
  have b4:=hb.st
  have b5:=hb.rl
  dsimp only at f1 f2 f3 f4 f5 f6 f7 b1 b3 b4 b5 hR
  generalize hRv:clZ (tk,(sk,(lv,(st,(rl,())))))=R at hR
  clear hRv hg hb
  have no:(R=true→False)→R=false:=fun h=>by cases R with | false=>rfl | true=>exact (h rfl).elim
  have hbig:(1000000000:Nat)≤awZ:=by decide
  refine arZ (vSZ tk sk lv st rl _ ?_)
  generalize awZ=big at hbig ⊢
  refine ⟨fun h=>⟨tvB (no fun q=>?_).symm,rfl⟩,fun h=>⟨fun h'=>⟨tvB (no fun q=>?_).symm,rfl⟩,fun h'=>⟨fun h''=>⟨tvB (no fun q=>?_).symm,rfl⟩,fun h''=>⟨fun h3=>⟨tvB (no fun q=>?_).symm,rfl⟩,fun h3=>⟨fun h4=>⟨tvB (no fun q=>?_).symm,rfl⟩,fun h4=>⟨_,⟨c8Z st b4⟩,fun h5=>⟨tvB (no fun q=>?_).symm,rfl⟩,fun h5=>?_⟩⟩⟩⟩⟩⟩
  · (simp only [dq1,dq2,dq3,dq4] at h);have:=hR.1 q;omega
  · (simp only [dq1,dq2,dq3,dq4] at h');have:=hR.1 q;omega
  · (simp only [dq1,dq2,dq3,dq4] at h'');have:=hR.1 q;omega
  · (simp only [dq1,dq2,dq3,dq4] at h3);have:=hR.1 q;omega
  · (simp only [dq1,dq2,dq3,dq4] at h4);have:=hR.1 q;omega
  · (simp only [dq1,dq2,dq3,dq4] at h5);have:=(hR.1 q).2.2.2.2.1;rw [h5] at this;cases this
  (simp only [dq1,dq2,dq3,dq4] at h h' h'' h3 h4 h5)
  refine ⟨fun ns z=>∃ k:Nat,z=k∧k≤tk.length∧ns=(tk.take k).map (·.1)∧(tk.take k).all (fun t=>g2Z t.2.1)=true,fun _ z=>((tk.length:Int)-z).toNat,⟨0,rfl,by omega,rfl,rfl⟩,?_⟩
  rintro ns z ⟨k,rfl,hk,rfl,hv⟩
  have hlen:((tk.take k).map (·.1)).length=k:=by rw [List.length_map,List.length_take];omega
  refine ⟨fun g1=>?_,fun g1=>?_⟩
  · (simp only [dq1,dq2,dq3,dq4] at g1)
    have hk':k<tk.length:=by omega
    have hm:=ahZ (([]:List Int),(([],([],(false,()))),())) tk _ hk'
    have q0:=lxZ fTk hm
    unfold fTk at q0
    have q1:(tk.getD k (([]:List Int),(([],([],(false,()))),()))).2.1.2.1.length≤1048576:=by unfold fTk at f2;omega
    rw [Int.toNat_natCast]
    refine ⟨⟨by omega⟩,⟨by rw [hlen,List.length_singleton];omega⟩,⟨by omega⟩,_,⟨lXZ _ (by omega)⟩,fun g2=>⟨tvB (no fun q=>?_).symm,rfl⟩,fun g2=>⟨⟨by omega⟩,⟨k+1,by omega,by omega,?_,?_⟩,⟨by ((try dsimp only);omega)⟩⟩⟩
    · (simp only [dq1,dq2,dq3,dq4] at g2)
      have:=(hR.1 q).1.1 _ hm;rw [g2] at this;cases this
    · rw [aaZ (([]:List Int),(([],([],(false,()))),())) hk',List.map_append];rfl
    · (simp only [dq1,dq2,dq3,dq4] at g2)
      rw [aaZ (([]:List Int),(([],([],(false,()))),())) hk',baZ,hv,g2];rfl
  (simp only [dq1,dq2,dq3,dq4] at g1)
  rw [show tk.take k=tk from List.take_of_length_le (by omega)] at hv hlen ⊢
  have t1:=List.all_eq_true.1 hv
  clear hv g1 hk hlen k
  refine ⟨fun z=>∃ k:Nat,z=k∧k≤sk.length∧(sk.take k).all g2Z=true,fun z=>((sk.length:Int)-z).toNat,⟨0,rfl,by omega,rfl⟩,?_⟩
  rintro z ⟨k,rfl,hk,hv⟩
  refine ⟨fun g1=>?_,fun g1=>?_⟩
  · (simp only [dq1,dq2,dq3,dq4] at g1)
    have hk':k<sk.length:=by omega
    have hm:=ahZ (([]:List Int),(([]:List Int),(false,()))) sk _ hk'
    have q0:=lxZ fSk hm
    unfold fSk at q0
    have q1:(sk.getD k (([]:List Int),(([]:List Int),(false,())))).2.1.length≤1048576:=by unfold fSk at f4;omega
    rw [Int.toNat_natCast]
    refine ⟨⟨by omega⟩,_,⟨lXZ _ (by omega)⟩,fun g2=>⟨tvB (no fun q=>?_).symm,rfl⟩,fun g2=>⟨⟨by omega⟩,⟨k+1,by omega,by omega,?_⟩,⟨by ((try dsimp only);omega)⟩⟩⟩
    · (simp only [dq1,dq2,dq3,dq4] at g2)
      have:=(hR.1 q).2.2.2.1 _ hm;rw [g2] at this;cases this
    · (simp only [dq1,dq2,dq3,dq4] at g2)
      rw [aaZ (([]:List Int),(([]:List Int),(false,()))) hk',baZ,hv,g2];rfl
  (simp only [dq1,dq2,dq3,dq4] at g1)
  rw [show sk.take k=sk from List.take_of_length_le (by omega)] at hv
  have t2:=List.all_eq_true.1 hv
  clear hv g1 hk k
  have hlen:∀ j,((lv.take j).flatMap (·.2.1)).length≤1048576:=by
    intro j
    have key:∀ l:List Lv,(l.flatMap (·.2.1)).length≤eCZ fLv l:=by
      intro l
      induction l with
      | nil=>exact Nat.zero_le _
      | cons x l ih =>
        have:x.2.1.length≤nmW x.2.1:=dWZ (fun x:List Int=>x.length+1) x.2.1 fun _ _=>by omega
        rw [List.flatMap_cons,List.length_append,cPZ]
        have fe:fLv x=nmW x.2.1:=rfl
        omega
    have:=key (lv.take j)
    have:=o0Z fLv lv j
    omega
  refine ⟨fun ns z=>∃ k:Nat,z=k∧k≤lv.length∧ns=(lv.take k).flatMap (·.2.1)∧(lv.take k).all jXZ=true,fun _ z=>((lv.length:Int)-z).toNat,⟨0,rfl,by omega,rfl,rfl⟩,?_⟩
  rintro ns z ⟨k,rfl,hk,rfl,hv⟩
  refine ⟨fun g1=>?_,fun g1=>?_⟩
  · (simp only [dq1,dq2,dq3,dq4] at g1)
    have hk':k<lv.length:=by omega
    have hm:=ahZ ((0:Int),(([]:List qT0),())) lv _ hk'
    have es:((lv.take (k+1)).flatMap (·.2.1))=(lv.take k).flatMap (·.2.1)++(lv.getD k ((0:Int),(([]:List qT0),()))).2.1:=by
      rw [aaZ ((0:Int),(([]:List qT0),())) hk',List.flatMap_append];simp
    have hs:=hlen (k+1)
    rw [es,List.length_append] at hs
    rw [Int.toNat_natCast]
    refine ⟨⟨by omega⟩,⟨by omega⟩,fun g2=>⟨tvB (no fun q=>?_).symm,rfl⟩,fun g2=>⟨fun g3=>⟨tvB (no fun q=>?_).symm,rfl⟩,fun g3=>⟨fun g4=>⟨tvB (no fun q=>?_).symm,rfl⟩,fun g4=>⟨⟨by omega⟩,⟨k+1,by omega,by omega,es.symm,?_⟩,⟨by ((try dsimp only);omega)⟩⟩⟩⟩⟩
    · (simp only [dq1,dq2,dq3,dq4] at g2)
      have:=(hR.1 q).2.1.1 _ hm
      simp only [jXZ,Bool.and_eq_true,decide_eq_true_eq] at this
      omega
    · (simp only [dq1,dq2,dq3,dq4] at g3)
      have:=(hR.1 q).2.1.1 _ hm
      simp only [jXZ,Bool.and_eq_true,decide_eq_true_eq] at this
      omega
    · (simp only [dq1,dq2,dq3,dq4] at g4)
      have:=(hR.1 q).2.1.1 _ hm
      simp only [jXZ,Bool.and_eq_true,decide_eq_true_eq,Bool.not_eq_true',decide_eq_false_iff_not] at this
      exact this.2 (List.length_eq_zero_iff.1 (by omega))
    · (simp only [dq1,dq2,dq3,dq4] at g2 g3 g4)
      have h5:(lv.getD k ((0:Int),(([]:List qT0),()))).2.1≠[]:=fun q=>g4 (by rw [q];rfl)
      rw [aaZ ((0:Int),(([]:List qT0),())) hk',baZ,hv,jXZ,decide_eq_true (by omega),decide_eq_true (p:=_≤3) (by omega),decide_eq_false h5];rfl
  (simp only [dq1,dq2,dq3,dq4] at g1)
  have hlv:=hlen k
  rw [show lv.take k=lv from List.take_of_length_le (by omega)] at hv hlv ⊢
  have t3:=List.all_eq_true.1 hv
  clear hv g1 hk k hlen
  refine ⟨fun z=>∃ k:Nat,z=k∧k≤rl.length∧(rl.take k).all hnZ=true,fun z=>((rl.length:Int)-z).toNat,⟨0,rfl,by omega,rfl⟩,?_⟩
  rintro z ⟨k,rfl,hk,hv⟩
  refine ⟨fun g1=>?_,fun g1=>?_⟩
  · (simp only [dq1,dq2,dq3,dq4] at g1)
    have hk':k<rl.length:=by omega
    rw [Int.toNat_natCast]
    have hm:=ahZ (([]:List Int),(([]:List qT0),(([]:List Int),(([]:List Int),())))) rl _ hk'
    have hbr:=b5 _ hm
    generalize hr:rl.getD k (([]:List Int),(([]:List qT0),(([]:List Int),(([]:List Int),()))))=r at hm hbr ⊢
    have bad:((∀ r∈rl,hnZ r=true)→False)→R=false:=fun h=>no fun q=>h (hR.1 q).2.2.2.2.2.2.2
    refine ⟨⟨by omega⟩,_,⟨c8Z _ hbr.1⟩,fun g2=>⟨tvB ?_,rfl⟩,fun g2=>⟨fun g3=>⟨tvB ?_,rfl⟩,fun g3=>⟨fun g4=>⟨_,⟨c8Z _ hbr.2.2.1⟩,fun g5=>⟨tvB ?_,rfl⟩,fun g5=>⟨_,⟨l1Z _⟩,fun g6=>⟨tvB ?_,rfl⟩,fun g6=>?_⟩⟩,fun g4=>⟨_,⟨l1Z _⟩,fun g6=>⟨tvB ?_,rfl⟩,fun g6=>?_⟩⟩⟩⟩
    · (simp only [dq1,dq2,dq3,dq4] at g2)
      refine (bad fun q=>?_).symm
      have:=(aPZ (q r hm)).1
      rw [g2] at this;cases this
    · (simp only [dq1,dq2,dq3,dq4] at g3)
      refine (bad fun q=>?_).symm
      have:=(aPZ (q r hm)).2.1
      omega
    · (simp only [dq1,dq2,dq3,dq4] at g5)
      simp only [Bool.not_eq_true',decide_eq_false_iff_not] at g4
      refine (bad fun q=>?_).symm
      have:=(aPZ (q r hm)).2.2.2.1
      rcases this with q1 | q1
      · exact g4 q1
      · rw [g5] at q1;cases q1
    · (simp only [dq1,dq2,dq3,dq4] at g6)
      refine (bad fun q=>?_).symm
      have:=(aPZ (q r hm)).2.2.2.2
      rw [g6] at this;cases this
    · (simp only [dq1,dq2,dq3,dq4] at g2 g3 g5 g6)
      simp only [Bool.not_eq_true',decide_eq_false_iff_not] at g4
      have h1:=g2
      have h2n:r.2.1.length≤8:=by omega
      have h2:decide (r.2.1.length≤8)=true:=decide_eq_true h2n
      have h5:=g6
      have h4:(decide (r.2.2.1=[])||a4Z r.2.2.1)=true:=by rw [g5,Bool.or_true]
      clear g2 g3 g6
      refine ⟨fun j a b c d=>∃ i:Nat,j=i∧i≤r.2.1.length∧b=r.2.1∧(r.2.1.take i).all a4Z=true,fun j _ _ _ _=>((r.2.1.length:Int)-j).toNat,⟨0,rfl,by omega,rfl,rfl⟩,?_⟩
      rintro j a b c d ⟨i,rfl,hi,rfl,hi2⟩
      refine ⟨fun g1=>?_,fun g1=>?_⟩
      · (simp only [dq1,dq2,dq3,dq4] at g1)
        have hi':i<r.2.1.length:=by omega
        rw [Int.toNat_natCast]
        refine ⟨⟨by omega⟩,_,⟨c8Z _ (hbr.2.1 _ (ahZ _ _ _ hi'))⟩,fun g2=>⟨tvB ?_,rfl⟩,fun g2=>⟨⟨by omega⟩,⟨i+1,by omega,by omega,rfl,?_⟩,⟨by ((try dsimp only);omega)⟩⟩⟩
        · (simp only [dq1,dq2,dq3,dq4] at g2)
          refine (bad fun q=>?_).symm
          have:=(aPZ (q r hm)).2.2.1
          rw [aDZ hi' g2] at this
          cases this
        · (simp only [dq1,dq2,dq3,dq4] at g2)
          rw [aaZ ([]:List Int) hi',baZ,hi2,g2];rfl
      · (simp only [dq1,dq2,dq3,dq4] at g1)
        rw [List.take_of_length_le (by omega)] at hi2
        refine ⟨⟨by omega⟩,⟨k+1,by omega,by omega,?_⟩,⟨by ((try dsimp only);omega)⟩⟩
        rw [aaZ (([]:List Int),(([]:List qT0),(([]:List Int),(([]:List Int),())))) hk',baZ,hv,hr]
        unfold hnZ
        rw [h1,h2,hi2,h4,h5];rfl
    · (simp only [dq1,dq2,dq3,dq4] at g6)
      refine (bad fun q=>?_).symm
      have:=(aPZ (q r hm)).2.2.2.2
      rw [g6] at this;cases this
    · (simp only [dq1,dq2,dq3,dq4] at g2 g3 g6)
      simp only [Bool.not_eq_false',decide_eq_true_eq] at g4
      have h1:=g2
      have h2n:r.2.1.length≤8:=by omega
      have h2:decide (r.2.1.length≤8)=true:=decide_eq_true h2n
      have h5:=g6
      have h4:(decide (r.2.2.1=[])||a4Z r.2.2.1)=true:=by rw [decide_eq_true g4,Bool.true_or]
      clear g2 g3 g6
      refine ⟨fun j a b c d=>∃ i:Nat,j=i∧i≤r.2.1.length∧b=r.2.1∧(r.2.1.take i).all a4Z=true,fun j _ _ _ _=>((r.2.1.length:Int)-j).toNat,⟨0,rfl,by omega,rfl,rfl⟩,?_⟩
      rintro j a b c d ⟨i,rfl,hi,rfl,hi2⟩
      refine ⟨fun g1=>?_,fun g1=>?_⟩
      · (simp only [dq1,dq2,dq3,dq4] at g1)
        have hi':i<r.2.1.length:=by omega
        rw [Int.toNat_natCast]
        refine ⟨⟨by omega⟩,_,⟨c8Z _ (hbr.2.1 _ (ahZ _ _ _ hi'))⟩,fun g2=>⟨tvB ?_,rfl⟩,fun g2=>⟨⟨by omega⟩,⟨i+1,by omega,by omega,rfl,?_⟩,⟨by ((try dsimp only);omega)⟩⟩⟩
        · (simp only [dq1,dq2,dq3,dq4] at g2)
          refine (bad fun q=>?_).symm
          have:=(aPZ (q r hm)).2.2.1
          rw [aDZ hi' g2] at this
          cases this
        · (simp only [dq1,dq2,dq3,dq4] at g2)
          rw [aaZ ([]:List Int) hi',baZ,hi2,g2];rfl
      · (simp only [dq1,dq2,dq3,dq4] at g1)
        rw [List.take_of_length_le (by omega)] at hi2
        refine ⟨⟨by omega⟩,⟨k+1,by omega,by omega,?_⟩,⟨by ((try dsimp only);omega)⟩⟩
        rw [aaZ (([]:List Int),(([]:List qT0),(([]:List Int),(([]:List Int),())))) hk',baZ,hv,hr]
        unfold hnZ
        rw [h1,h2,hi2,h4,h5];rfl
  (simp only [dq1,dq2,dq3,dq4] at g1)
  rw [show rl.take k=rl from List.take_of_length_le (by omega)] at hv
  have t4:=List.all_eq_true.1 hv
  have n1:ByN (tk.map (·.1)):=fun s hs=>by
    obtain ⟨t,ht,rfl⟩:=List.mem_map.1 hs
    exact b1 t ht
  have n2:ByN (lv.flatMap (·.2.1)):=fun s hs=>by
    obtain ⟨x,hx,hs⟩:=List.mem_flatMap.1 hs
    exact b3 x hx s hs
  refine ⟨_,⟨lPZ _ (by rw [List.length_map];omega) n1⟩,fun g2=>⟨_,⟨lPZ _ (by omega) n2⟩,tvB ?_,rfl⟩,fun g2=>⟨tvB (no fun q=>?_).symm,rfl⟩⟩
  · cases ho:crZ (lv.flatMap (·.2.1)) with
    | false=>exact (no fun q=>by have:=(hR.1 q).2.1.2.2;rw [ho] at this;cases this).symm
    | true=>exact (hR.2 ⟨⟨t1,by omega,g2⟩,⟨t3,by omega,ho⟩,by omega,t2,h5,by omega,by omega,t4⟩).symm
  · have:=(hR.1 q).1.2.2;rw [g2] at this;cases this
end Go.Am.N
