/-
  A part of the proof of a law: see the text that states it.
-/
import Derived.Test.YtggaihkjnomflaaGreatDoorZB
import Derived.Test.YtggaihkjnomflaaGreatDoorVcL
set_option linter.all false
namespace Go.Am.N
open Go Go.Am.Pr Go.Am.N.L
set_option maxRecDepth 100000
def crZ (l:List qT0):Bool:=l.all a4Z&&decide l.Nodup
theorem p2Z {α:Type} (l:List α) (k:Nat):cut l 0 k=l.take k:=by unfold cut;rw [List.drop_zero]
theorem cCZ {l:List qT0} {x:List Int}:(l++[x]).Nodup↔l.Nodup∧x ∉ l:=by
 rw [List.nodup_append]
 constructor
 ·rintro ⟨h1,_,h3⟩;exact ⟨h1,fun hx=>h3 x hx x (by simp) rfl⟩
 ·rintro ⟨h1,h2⟩
  refine ⟨h1,by simp,fun a ha b hb=>?_⟩
  rw [List.mem_singleton] at hb
  subst hb
  rintro rfl;exact h2 ha
theorem aDZ {α:Type} {p:α→Bool} {l:List α} {k:Nat} {d:α} (hk:k<l.length) (h:p (l.getD k d)=false):l.all p=false:=by
 cases ha:l.all p with
 | false=>rfl
 | true =>
  rw [List.all_eq_true] at ha
  have:=ha _ (ahZ d l _ hk)
  rw [h] at this;cases this
theorem baZ {α:Type} (p:α→Bool) (l:List α) (x:α):(l++[x]).all p=(l.all p&&p x):=by rw [List.all_append];simp
theorem pnZ (l:List qT0) (hl:l.length≤1000000):E 64 [.tv [] bPZ l] [] (bv (crZ l)) []:=by
 refine arZ (vLZ l _ ?_)
 refine ⟨fun z=>∃ k:Nat,z=k∧k≤l.length∧crZ (l.take k)=true,fun z=>((l.length:Int)-z).toNat,⟨0,rfl,by omega,rfl⟩,?_⟩
 rintro z ⟨k,rfl,hk,hv⟩
 unfold crZ at hv
 simp only [Bool.and_eq_true,decide_eq_true_eq] at hv
 refine ⟨fun h=>?_,fun h=>?_⟩
 ·(simp only [dq1,dq2,dq3,dq4] at h)
  have hk':k<l.length:=by omega
  rw [Int.toNat_natCast]
  refine ⟨⟨by omega⟩,_,⟨eBZ _⟩,fun h2=>⟨tvB ?_,rfl⟩,fun h2=>⟨⟨by omega⟩,decide (l.getD k []∈l.take k),⟨?_⟩,fun h3=>⟨tvB ?_,rfl⟩,fun h3=>⟨⟨by omega⟩,⟨k+1,by omega,by omega,?_⟩,⟨by ((try dsimp only);omega)⟩⟩⟩⟩
  ·(simp only [dq1,dq2,dq3,dq4] at h2)
   rw [crZ,aDZ hk' h2];rfl
  ·rw [p2Z]
   exact bpZ (l.take k) _ (by rw [List.length_take];omega)
  ·(simp only [dq1,dq2,dq3,dq4] at h3)
   rw [crZ,decide_eq_false (fun q=>?_),Bool.and_false]
   have q2:(l.take (k+1)).Nodup:=List.Nodup.sublist (List.take_sublist _ _) q
   rw [aaZ ([]:List Int) hk',cCZ] at q2
   exact q2.2 h3
  ·(simp only [dq1,dq2,dq3,dq4] at h2 h3)
   rw [crZ,aaZ ([]:List Int) hk',baZ,hv.1,h2,decide_eq_true (cCZ.2 ⟨hv.2,h3⟩)];rfl
 ·(simp only [dq1,dq2,dq3,dq4] at h)
  rw [List.take_of_length_le (by omega)] at hv
  refine ⟨tvB ?_,rfl⟩
  rw [crZ,hv.1,decide_eq_true hv.2];rfl
def sXZ (l:List Tk):Bool:=l.all (fun t=>g2Z t.2.1)&&(decide (l.length≤20)&&crZ (l.map (·.1)))
abbrev tk0:Tk:=(([]:List Int),(([],([],(false,()))),()))
theorem rIZ (l:List Tk) (hl:l.length≤1000000) (hp:∀ t∈l,t.2.1.2.1.length≤1000000):E 42 [.tv [] (.slice tTk) l] [] (bv (sXZ l)) []:=by
  refine arZ (vdZ l _ ?_)
  refine ⟨fun ns z=>∃ k:Nat,z=k∧k≤l.length∧ns=(l.take k).map (·.1)∧(l.take k).all (fun t=>g2Z t.2.1)=true,fun _ z=>((l.length:Int)-z).toNat,⟨0,rfl,by omega,rfl,rfl⟩,?_⟩
  rintro ns z ⟨k,rfl,hk,rfl,hv⟩
  have hlen:((l.take k).map (·.1)).length=k:=by rw [List.length_map,List.length_take];omega
  refine ⟨fun h=>?_,fun h=>?_⟩
  · (simp only [dq1,dq2,dq3,dq4] at h)
    have hk':k<l.length:=by omega
    rw [Int.toNat_natCast]
    refine ⟨⟨by omega⟩,_,⟨pbZ _ (hp _ (ahZ _ l _ hk'))⟩,fun h2=>⟨tvB ?_,rfl⟩,fun h2=>⟨⟨by rw [hlen,List.length_singleton];unfold awZ;omega⟩,⟨by omega⟩,⟨k+1,by omega,by omega,?_,?_⟩,⟨by ((try dsimp only);omega)⟩⟩⟩
    · (simp only [dq1,dq2,dq3,dq4] at h2)
      rw [sXZ,aDZ (d:=tk0) hk' h2];rfl
    · rw [aaZ tk0 hk',List.map_append];rfl
    · (simp only [dq1,dq2,dq3,dq4] at h2)
      rw [aaZ tk0 hk',baZ,hv,h2];rfl
  · (simp only [dq1,dq2,dq3,dq4] at h)
    have e:l.take k=l:=List.take_of_length_le (by omega)
    rw [e] at hv hlen ⊢
    refine ⟨fun h2=>⟨_,⟨pnZ _ (by rw [hlen];omega)⟩,tvB ?_,rfl⟩,fun h2=>⟨tvB ?_,rfl⟩⟩
    · (simp only [dq1,dq2,dq3,dq4] at h2)
      rw [sXZ,hv,decide_eq_true (show l.length≤20 by omega)];rfl
    · (simp only [dq1,dq2,dq3,dq4] at h2)
      rw [sXZ,hv,decide_eq_false (show ¬ l.length≤20 by omega)];rfl
def jXZ (x:Lv):Bool:=decide (1≤x.1)&&decide (x.1≤3)&&!decide (x.2.1=[])
def lvO (l:List Lv):Bool:=l.all jXZ&&(decide (l.length≤10)&&crZ (l.flatMap (·.2.1)))
theorem tSZ (l:List Lv) (hl:l.length≤1000000) (hn:(l.flatMap (·.2.1)).length≤1000000):E 43 [.tv [] (.slice tLv) l] [] (bv (lvO l)) []:=by
  refine arZ (v8Z l _ ?_)
  refine ⟨fun ns z=>∃ k:Nat,z=k∧k≤l.length∧ns=(l.take k).flatMap (·.2.1)∧(l.take k).all jXZ=true,fun _ z=>((l.length:Int)-z).toNat,⟨0,rfl,by omega,rfl,rfl⟩,?_⟩
  rintro ns z ⟨k,rfl,hk,rfl,hv⟩
  have hlen:∀ j,((l.take j).flatMap (·.2.1)).length≤1000000:=by
    intro j
    have:(l.flatMap (·.2.1)).length=((l.take j).flatMap (·.2.1)).length+((l.drop j).flatMap (·.2.1)).length:=by
      rw [← List.length_append,← List.flatMap_append,List.take_append_drop]
    omega
  refine ⟨fun h=>?_,fun h=>?_⟩
  · (simp only [dq1,dq2,dq3,dq4] at h)
    have hk':k<l.length:=by omega
    rw [Int.toNat_natCast]
    have hs:=hlen (k+1)
    rw [aaZ ((0:Int),(([]:List qT0),())) hk',List.flatMap_append,List.length_append] at hs
    have hs2:([l.getD k ((0:Int),(([]:List qT0),()))].flatMap (·.2.1)).length=(l.getD k ((0:Int),(([]:List qT0),()))).2.1.length:=by simp
    rw [hs2] at hs
    refine ⟨⟨by omega⟩,fun h2=>⟨tvB ?_,rfl⟩,fun h2=>⟨fun h3=>⟨tvB ?_,rfl⟩,fun h3=>⟨fun h4=>⟨tvB ?_,rfl⟩,fun h4=>⟨⟨by unfold awZ;omega⟩,⟨by omega⟩,⟨k+1,by omega,by omega,?_,?_⟩,⟨by ((try dsimp only);omega)⟩⟩⟩⟩⟩
    · (simp only [dq1,dq2,dq3,dq4] at h2)
      rw [lvO,aDZ (d:=((0:Int),(([]:List qT0),()))) (p:=jXZ) hk' (by rw [jXZ,decide_eq_false (by omega)];rfl)];rfl
    · (simp only [dq1,dq2,dq3,dq4] at h3)
      rw [lvO,aDZ (d:=((0:Int),(([]:List qT0),()))) (p:=jXZ) hk' (by rw [jXZ,decide_eq_false (p:=_≤3) (by omega),Bool.and_false];rfl)];rfl
    · (simp only [dq1,dq2,dq3,dq4] at h4)
      have h5:(l.getD k ((0:Int),(([]:List qT0),()))).2.1=[]:=List.length_eq_zero_iff.1 (by omega)
      rw [lvO,aDZ (d:=((0:Int),(([]:List qT0),()))) (p:=jXZ) hk' (by rw [jXZ,h5];simp)];rfl
    · rw [aaZ ((0:Int),(([]:List qT0),())) hk',List.flatMap_append]
      congr 1
      simp
    · (simp only [dq1,dq2,dq3,dq4] at h2 h3 h4)
      have h5:(l.getD k ((0:Int),(([]:List qT0),()))).2.1≠[]:=fun q=>h4 (by rw [q];rfl)
      rw [aaZ ((0:Int),(([]:List qT0),())) hk',baZ,hv,jXZ,decide_eq_true (by omega),decide_eq_true (p:=_≤3) (by omega),decide_eq_false h5];rfl
  · (simp only [dq1,dq2,dq3,dq4] at h)
    have e:l.take k=l:=List.take_of_length_le (by omega)
    rw [e] at hv ⊢
    refine ⟨fun h2=>⟨_,⟨pnZ _ hn⟩,tvB ?_,rfl⟩,fun h2=>⟨tvB ?_,rfl⟩⟩
    · (simp only [dq1,dq2,dq3,dq4] at h2)
      rw [lvO,hv,decide_eq_true (show l.length≤10 by omega)];rfl
    · (simp only [dq1,dq2,dq3,dq4] at h2)
      rw [lvO,hv,decide_eq_false (show ¬ l.length≤10 by omega)];rfl
theorem mJZ (l:List qT0) (hl:l.length≤1000000):E 62 [.tv [] bPZ l,.fn 61 [] []] [] (bv (!l.all a4Z)) []:=by
 have ev:EvF PP orc 70 [.tv [] bPZ l,.fn 61 [] []] [] fun a h=>∃ i:Int,a=iv i∧h=[]∧decide (0≤i)=!l.all a4Z:=by
  refine vbZ l _ ?_
  refine ⟨fun z=>∃ k:Nat,z=k∧k≤l.length∧(l.take k).all a4Z=true,fun z=>((l.length:Int)-z).toNat,⟨0,rfl,by omega,rfl⟩,?_⟩
  rintro z ⟨k,rfl,hk,hv⟩
  refine ⟨fun h=>?_,fun h=>?_⟩
  ·(simp only [dq1,dq2,dq3,dq4] at h)
   have hk':k<l.length:=by omega
   rw [Int.toNat_natCast]
   refine ⟨⟨by omega⟩,_,⟨arZ (v6Z _ _ ⟨_,⟨eBZ _⟩,rfl,rfl⟩)⟩,fun h2=>⟨_,rfl,rfl,?_⟩,fun h2=>⟨⟨by omega⟩,⟨k+1,by omega,by omega,?_⟩,⟨by ((try dsimp only);omega)⟩⟩⟩
   ·(simp only [dq1,dq2,dq3,dq4] at h2)
    rw [aDZ hk' h2,decide_eq_true (by omega)];rfl
   ·(simp only [dq1,dq2,dq3,dq4] at h2)
    rw [aaZ ([]:List Int) hk',baZ,hv,h2];rfl
  ·(simp only [dq1,dq2,dq3,dq4] at h)
   rw [List.take_of_length_le (by omega)] at hv
   exact ⟨_,rfl,rfl,by rw [hv];rfl⟩
 obtain ⟨a,h,e,i,rfl,rfl,hi⟩:=ev
 exact arZ (uOZ l _ ⟨i,⟨e⟩,tvB hi,rfl⟩)
abbrev pt0:Pat:=([],([],(false,())))
theorem ocZ (l:List Pat) (hl:l.length≤1000000) (hp:∀ p∈l,p.2.1.length≤1000000):E 44 [.tv [] (.slice knZ) l,.fn 40 [] []] [] (bv (!l.all g2Z)) []:=by
 have ev:EvF PP orc 65 [.tv [] (.slice knZ) l,.fn 40 [] []] [] fun a h=>∃ i:Int,a=iv i∧h=[]∧decide (0≤i)=!l.all g2Z:=by
  refine vqZ l _ ?_
  refine ⟨fun z=>∃ k:Nat,z=k∧k≤l.length∧(l.take k).all g2Z=true,fun z=>((l.length:Int)-z).toNat,⟨0,rfl,by omega,rfl⟩,?_⟩
  rintro z ⟨k,rfl,hk,hv⟩
  refine ⟨fun h=>?_,fun h=>?_⟩
  ·(simp only [dq1,dq2,dq3,dq4] at h)
   have hk':k<l.length:=by omega
   rw [Int.toNat_natCast]
   refine ⟨⟨by omega⟩,_,⟨arZ (voZ _ _ _ _ ⟨_,⟨pbZ (l.getD k pt0) (hp _ (ahZ _ l _ hk'))⟩,rfl,rfl⟩)⟩,fun h2=>⟨_,rfl,rfl,?_⟩,fun h2=>⟨⟨by omega⟩,⟨k+1,by omega,by omega,?_⟩,⟨by ((try dsimp only);omega)⟩⟩⟩
   ·(simp only [dq1,dq2,dq3,dq4] at h2)
    rw [aDZ (d:=pt0) hk' h2,decide_eq_true (by omega)];rfl
   ·(simp only [dq1,dq2,dq3,dq4] at h2)
    rw [aaZ pt0 hk',baZ,hv,h2];rfl
  ·(simp only [dq1,dq2,dq3,dq4] at h)
   rw [List.take_of_length_le (by omega)] at hv
   exact ⟨_,rfl,rfl,by rw [hv];rfl⟩
 obtain ⟨a,h,e,i,rfl,rfl,hi⟩:=ev
 exact arZ (viZ l _ ⟨i,⟨e⟩,tvB hi,rfl⟩)
def hnZ (r:Rl):Bool:=a4Z r.1&&(decide (r.2.1.length≤8)&&(r.2.1.all a4Z&&((decide (r.2.2.1=[])||a4Z r.2.2.1)&&kpZ r.2.2.2.1)))
abbrev rbZ (r:Rl):Prop:=∀ c∈r.2.2.2.1,0≤c∧c<256
theorem stZ (r:Rl) (ha:rbZ r):E 39 [.tv [] tRl r] [] (bv (hnZ r)) []:=by
 obtain ⟨n,ns,p,a,⟨⟩⟩:=r
 refine arZ (uWZ n ns p a _ ⟨_,⟨eBZ n⟩,fun h=>⟨fun h2=>?_,fun h2=>⟨tvB ?_,rfl⟩⟩,fun h=>⟨tvB ?_,rfl⟩⟩)
 ·(simp only [dq1,dq2,dq3,dq4] at h2)
  have h2':ns.length≤8:=by omega
  refine ⟨_,⟨mJZ ns (by omega)⟩,fun h3=>⟨fun h4=>⟨_,⟨hVZ a ha⟩,tvB ?_,rfl⟩,fun h4=>⟨_,⟨eBZ p⟩,fun h5=>⟨_,⟨hVZ a ha⟩,tvB ?_,rfl⟩,fun h5=>⟨tvB ?_,rfl⟩⟩⟩,fun h3=>⟨tvB ?_,rfl⟩⟩
  all_goals (simp only [Bool.not_not] at h3;unfold hnZ;dsimp only;rw [h,h3,decide_eq_true h2'])
  ·rw [h4];simp
  ·rw [h4,h5];simp
  ·rw [h4,h5];simp
  ·rfl
 ·(simp only [dq1,dq2,dq3,dq4] at h2)
  unfold hnZ;dsimp only;rw [h,decide_eq_false (p:=ns.length≤8) (by omega)];rfl
 ·unfold hnZ;dsimp only;rw [h];rfl
abbrev rl0:Rl:=([],([],([],([],()))))
theorem mWZ (l:List Rl) (hl:l.length≤1000000) (ha:∀ r∈l,rbZ r):E 46 [.tv [] (.slice tRl) l,.fn 38 [] []] [] (bv (!l.all hnZ)) []:=by
 have ev:EvF PP orc 67 [.tv [] (.slice tRl) l,.fn 38 [] []] [] fun a h=>∃ i:Int,a=iv i∧h=[]∧decide (0≤i)=!l.all hnZ:=by
  refine vUZ l _ ?_
  refine ⟨fun z=>∃ k:Nat,z=k∧k≤l.length∧(l.take k).all hnZ=true,fun z=>((l.length:Int)-z).toNat,⟨0,rfl,by omega,rfl⟩,?_⟩
  rintro z ⟨k,rfl,hk,hv⟩
  refine ⟨fun h=>?_,fun h=>?_⟩
  ·(simp only [dq1,dq2,dq3,dq4] at h)
   have hk':k<l.length:=by omega
   rw [Int.toNat_natCast]
   refine ⟨⟨by omega⟩,_,⟨arZ (vMZ _ _ _ _ _ ⟨_,⟨stZ (l.getD k rl0) (ha _ (ahZ _ l _ hk'))⟩,rfl,rfl⟩)⟩,fun h2=>⟨_,rfl,rfl,?_⟩,fun h2=>⟨⟨by omega⟩,⟨k+1,by omega,by omega,?_⟩,⟨by ((try dsimp only);omega)⟩⟩⟩
   ·(simp only [dq1,dq2,dq3,dq4] at h2)
    rw [aDZ (d:=rl0) hk' h2,decide_eq_true (by omega)];rfl
   ·(simp only [dq1,dq2,dq3,dq4] at h2)
    rw [aaZ rl0 hk',baZ,hv,h2];rfl
  ·(simp only [dq1,dq2,dq3,dq4] at h)
   rw [List.take_of_length_le (by omega)] at hv
   exact ⟨_,rfl,rfl,by rw [hv];rfl⟩
 obtain ⟨a,h,e,i,rfl,rfl,hi⟩:=ev
 exact arZ (uQZ l _ ⟨i,⟨e⟩,tvB hi,rfl⟩)
def clZ (g:Gr):Bool:=sXZ g.1&&(lvO g.2.2.1&&(decide (g.2.1.length≤4)&&(g.2.1.all g2Z&&(a4Z g.2.2.2.1&&(decide (0<g.2.2.2.2.1.length)&&(decide (g.2.2.2.2.1.length≤40)&&g.2.2.2.2.1.all hnZ))))))
structure Few (g:Gr):Prop where
  tk:g.1.length≤10000
  tks:∀ t∈g.1,t.1.length≤10000∧t.2.1.1.length≤10000∧t.2.1.2.1.length≤10000
  sk:g.2.1.length≤10000
  sks:∀ p∈g.2.1,p.1.length≤10000∧p.2.1.length≤10000
  lv:g.2.2.1.length≤10000
  lvn:(g.2.2.1.flatMap (·.2.1)).length≤10000
  rl:g.2.2.2.2.1.length≤10000
  rls:∀ r∈g.2.2.2.2.1,r.1.length≤10000∧r.2.1.length≤10000∧(∀ x∈r.2.1,x.length≤10000)∧r.2.2.1.length≤10000∧r.2.2.2.1.length≤10000
  act:∀ r∈g.2.2.2.2.1,rbZ r
theorem pXZ (g:Gr) (hg:Few g):E 21 [.tv [] tGr g] [] (bv (clZ g)) []:=by
 obtain ⟨tk,sk,lv,st,rl,⟨⟩⟩:=g
 have f1:=hg.tk
 have f2:=hg.tks
 have f3:=hg.sk
 have f4:=hg.sks
 have f5:=hg.lv
 have f6:=hg.lvn
 have f7:=hg.rl
 have f8:=hg.act
 dsimp only at f1 f2 f3 f4 f5 f6 f7 f8
 have e1:=rIZ tk (by omega) (fun t ht=>by have:=f2 t ht;omega)
 have e2:=tSZ lv (by omega) (by omega)
 have e3:=ocZ sk (by omega) (fun t ht=>by have:=f4 t ht;omega)
 have e4:=eBZ st
 have e5:=mWZ rl (by omega) f8
 refine arZ (u9Z tk sk lv st rl _ ⟨_,⟨e1⟩,fun h1=>⟨tvB ?_,rfl⟩,fun h1=>⟨_,⟨e2⟩,fun h2=>⟨tvB ?_,rfl⟩,fun h2=>⟨fun h3=>⟨tvB ?_,rfl⟩,fun h3=>⟨_,⟨e3⟩,fun h4=>⟨tvB ?_,rfl⟩,fun h4=>⟨_,⟨e4⟩,fun h5=>⟨fun h6=>⟨fun h7=>⟨_,⟨e5⟩,tvB ?_,rfl⟩,fun h7=>⟨tvB ?_,rfl⟩⟩,fun h6=>⟨tvB ?_,rfl⟩⟩,fun h5=>⟨tvB ?_,rfl⟩⟩⟩⟩⟩⟩)
 all_goals (unfold clZ;dsimp only;simp only [Bool.not_eq_true',Bool.not_eq_false',decide_eq_true_eq,decide_eq_false_iff_not] at *)
 ·rw [h1];rfl
 ·rw [h1,h2];rfl
 ·rw [h1,h2,decide_eq_false (p:=sk.length≤4) (by omega)];rfl
 ·rw [h1,h2,h4,Bool.false_and,Bool.and_false];rfl
 ·rw [h1,h2,decide_eq_true (p:=sk.length≤4) (by omega),h4,h5,decide_eq_true (p:=0<rl.length) (by omega),decide_eq_true (p:=rl.length≤40) (by omega),Bool.not_not];rfl
 ·rw [decide_eq_false (p:=rl.length≤40) (by omega)];simp
 ·rw [decide_eq_false (p:=0<rl.length) (by omega)];simp
 ·rw [h5];simp
end Go.Am.N
