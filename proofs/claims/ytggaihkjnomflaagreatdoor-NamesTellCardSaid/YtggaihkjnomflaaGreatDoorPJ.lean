/-
  A part of the proof of a law: see the text that states it.
-/
import Derived.Test.YtggaihkjnomflaaGreatDoorPG
import Derived.Test.YtggaihkjnomflaaGreatDoorZG
import Derived.Test.YtggaihkjnomflaaGreatDoorVd6
set_option linter.all false
namespace Go.Am.N
open Go Go.Am.Pr Go.Am.N.L
set_option maxRecDepth 100000
theorem GoodP.plB {g:Gr} (h:GoodP g):PlB (dGZ g (amZ g))∧(amZ g).1.length≤21∧(amZ g).2.1.length≤40:=by
 have h1:=h.tl
 have h2:=h.rl
 have h3:=dMZ g.2.2.2.2.1 g.2.2.2.2.1.length (Nat.le_refl _)
 rw [List.take_of_length_le (Nat.le_refl _)] at h3
 have a:(amZ g).1.length≤21:=by unfold amZ;simp only [List.length_cons,List.length_map];omega
 have b:(amZ g).2.1.length≤40:=by unfold amZ;dsimp only;omega
 refine ⟨⟨?_,?_⟩,a,b⟩
 ·show (amZ g).1.length≤_;omega
 ·show (amZ g).2.1.length≤_;omega
end Go.Am.N
namespace Go.Am.N
open Go Go.Am.Pr Go.Am.N.L
set_option maxRecDepth 100000
theorem rfZ:∀ (l:List qT0),(∀ x∈l,x.length≤32)→(spW l).length≤l.length * 33
 | [],_=>Nat.le_refl _
 | x::l,h=>by
  have h1:=h x (List.mem_cons_self ..)
  have ih:=rfZ l fun y hy=>h y (List.mem_cons_of_mem _ hy)
  rw [iIZ,List.length_append,List.length_append,List.length_singleton,List.length_cons,Nat.add_mul]
  omega
section
variable {g:Gr} (h:GoodP g)
include h
theorem GoodP.len32:(∀ x∈(amZ g).1,x.length≤32)∧∀ x∈(amZ g).2.1,x.length≤32:=by
 refine ⟨fun x hx=>?_,fun x hx=>?_⟩
 ·rcases List.mem_cons.1 hx with rfl | hx
  ·decide
  ·obtain ⟨t,ht,rfl⟩:=List.mem_map.1 hx
   exact bdZ (h.tn t ht)
 ·obtain ⟨r,hr,rfl⟩:=((cZZ _).2 x).1 hx
  exact bdZ (aPZ (h.rn r hr)).1
theorem GoodP.plS:PlS (dGZ g (amZ g)):=by
 obtain ⟨b,_,_⟩:=h.plB
 have hl:=h.len32
 refine ⟨b,fun x hx=>by have:=hl.1 x hx;omega,fun x hx=>by have:=hl.2 x hx;omega,fun x hx=>?_,?_⟩
 ·rcases List.mem_cons.1 hx with rfl | hx
  ·show ([_]:List Int).length≤100000
   rw [List.length_singleton];decide
  ·obtain ⟨r,hr,rfl⟩:=List.mem_map.1 hx
   have:=(aPZ (h.rn r hr)).2.1
   show (r.2.1.map _).length≤_
   rw [List.length_map];omega
 ·show (jTZ g (amZ g)).length≤_
  have:=h.rl
  unfold jTZ
  rw [List.length_cons,List.length_map];omega
theorem GoodP.left {r:Rl} (hr:r∈g.2.2.2.2.1):r.1∈(amZ g).2.1:=((cZZ _).2 _).2 ⟨r,hr,rfl⟩
end
end Go.Am.N
namespace Go.Am.N
open Go Go.Am.Pr Go.Am.N.L
open Go.Am.K (GoodG kAZ vrs lvs tSm Sml SmOK hKZ edZ)
set_option maxRecDepth 100000
theorem scZ {s:Sml} (h:SmOK s):E 33 [.tv [] tSm s] [] (.tv [] tGr (hKZ s h)) [] :=
 poZ (g:=Go.Am.K.gramPrim) [] rfl (Go.Am.K.gramPrim_ok h)
def twZ (s:Sml) (a b:Int):Bool:=decide ((s.2.2.1.length:Int)≤a)&&(decide (s.2.2.2.2.2.1.length≤5)&&s.2.2.2.1.all fun l=>decide ((l.length:Int)≤b))
theorem rZZ (s:Sml) (a b:Int) (hl:s.2.2.2.1.length≤9223372036854775807):E 10 [.tv [] tSm s,iv a,iv b] [] (bv (twZ s a b)) []:=by
 obtain ⟨x0,x1,x2,x3,x4,x5,x6,⟨⟩⟩:=s
 dsimp only at hl
 unfold twZ
 dsimp only
 refine arZ (uZZ x0 x1 x2 x3 x4 x5 x6 a b _ ⟨fun h=>⟨tvB ?_,rfl⟩,fun h=>⟨fun h2=>⟨tvB ?_,rfl⟩,fun h2=>?_⟩⟩)
 ·(simp only [dq1,dq2,dq3,dq4] at h);rw [decide_eq_false (by omega)];rfl
 ·(simp only [dq1,dq2,dq3,dq4] at h2);rw [decide_eq_false (p:=x5.length≤5) (by omega),Bool.false_and,Bool.and_false]
 (simp only [dq1,dq2,dq3,dq4] at h h2)
 rw [decide_eq_true (show (x2.length:Int)≤a by omega),decide_eq_true (show x5.length≤5 by omega),Bool.true_and,Bool.true_and]
 refine ⟨fun z=>∃ k:Nat,z=k∧k≤x3.length∧(x3.take k).all (fun l=>decide ((l.length:Int)≤b))=true,fun z=>((x3.length:Int)-z).toNat,⟨0,rfl,by omega,rfl⟩,?_⟩
 rintro z ⟨k,rfl,hk,hv⟩
 refine ⟨fun q=>?_,fun q=>?_⟩
 ·(simp only [dq1,dq2,dq3,dq4] at q)
  have hk':k<x3.length:=by omega
  rw [Int.toNat_natCast]
  refine ⟨⟨by omega⟩,fun q2=>⟨tvB ?_,rfl⟩,fun q2=>⟨⟨by omega⟩,⟨k+1,by omega,by omega,?_⟩,⟨by ((try dsimp only);omega)⟩⟩⟩
  ·(simp only [dq1,dq2,dq3,dq4] at q2)
   exact (aDZ (d:=([]:List Int)) hk' (decide_eq_false (by omega))).symm
  ·(simp only [dq1,dq2,dq3,dq4] at q2)
   rw [aaZ ([]:List Int) hk',baZ,hv,decide_eq_true (by omega)];rfl
 ·(simp only [dq1,dq2,dq3,dq4] at q)
  rw [List.take_of_length_le (by omega)] at hv
  exact ⟨tvB hv.symm,rfl⟩
theorem dnZ:(∀ x∈kAZ,a4Z x=true)∧(∀ x∈vrs,a4Z x=true)∧(∀ x∈lvs,a4Z x=true)∧(∀ x∈kAZ,x ∉ vrs)∧(∀ x∈kAZ,x ∉ lvs)∧(∀ x∈kAZ,x≠[]∧x.length≤32)∧∀ x∈lvs,x≠[]:=by decide
abbrev smG (t:List Tk) (l:List Lv) (r:List Rl):Gr:=(t,([],(l,([83],(r,())))))
theorem nOZ {t:List Tk} {l:List Lv} {r:List Rl} (h:GoodG t l [83] r):Few (smG t l r):=by
 have nl:∀ x:List Int,(x∈kAZ∨x∈vrs∨x∈lvs)→x.length≤32:=fun x hx=>by
  rcases hx with hx | hx | hx
  ·exact bdZ (dnZ.1 x hx)
  ·exact bdZ (dnZ.2.1 x hx)
  ·exact bdZ (dnZ.2.2.1 x hx)
 have h1:=h.tn
 have h2:=h.ln
 have h3:=h.lnn
 have h4:=h.rn.2
 refine ⟨by dsimp only;omega,fun x hx=>?_,Nat.zero_le _,nofun,by dsimp only;omega,?_,by dsimp only;omega,fun x hx=>?_,fun x hx=>?_⟩
 ·obtain ⟨q1,q2⟩:=h.tok x hx
  have:=nl _ (.inl q1)
  rw [q2]
  exact ⟨by omega,by dsimp only;omega,Nat.zero_le _⟩
 ·exact Nat.le_trans h3 (by decide)
 ·refine ⟨by have:=nl _ (.inr (.inl (h.left x hx)));omega,by have:=h.rlen x hx;omega,fun n hn=>?_,?_,by rw [h.act x hx];exact Nat.zero_le _⟩
  ·rcases h.rnm x hx n hn with q | q
   ·have:=nl _ (.inl (h.tname q));omega
   ·have:=nl _ (.inr (.inl (h.rname q)));omega
  ·rcases h.prec x hx with q | q
   ·rw [q];exact Nat.zero_le _
   ·have:=nl _ (.inr (.inr q.1));omega
 ·show rbZ x
  unfold rbZ
  rw [h.act x hx];nofun
theorem rSZ {l:List Lv} {n:List Int} (h:n∈l.flatMap (·.2.1)):kZZ l n≠0:=by
 rcases bsZ (fun x:Lv=>decide (n∈x.2.1)) l with ⟨_,h2⟩ | ⟨k,_,h2,_,_⟩
 ·obtain ⟨x,hx,hn⟩:=List.mem_flatMap.1 h
  rw [List.any_eq_false] at h2
  exact absurd (decide_eq_true hn) (h2 x hx)
 ·unfold kZZ;rw [h2];omega
theorem h0Z {t:List Tk} {l:List Lv} {r:List Rl} (h:GoodG t l [83] r):ofO (smG t l r)=(dGZ (smG t l r) (amZ (smG t l r)),(0,[])):=by
  have hR:clZ (smG t l r)=true:=by
    refine (c7Z _).2 ⟨⟨fun x hx=>?_,by have:=h.tn;dsimp only;omega,?_⟩,⟨fun x hx=>?_,by have:=h.ln;dsimp only;omega,?_⟩,Nat.zero_le _,nofun,(by decide:a4Z [83]=true),by have:=h.rn.1;dsimp only;omega,by have:=h.rn.2;dsimp only;omega,fun x hx=>?_⟩
    · obtain ⟨q1,q2⟩:=h.tok x hx
      have:=dnZ.2.2.2.2.2.1 _ q1
      rw [q2]
      unfold g2Z
      rw [if_pos this.1,decide_eq_true this.2];rfl
    · unfold crZ
      rw [decide_eq_true h.tnd,List.all_eq_true.2 fun n hn=>dnZ.1 n (h.tname hn)];rfl
    · obtain ⟨q1,q2,q3⟩:=h.lev x hx
      unfold jXZ
      rw [decide_eq_true q1,decide_eq_true q2,decide_eq_false q3];rfl
    · unfold crZ
      rw [decide_eq_true h.lnd,List.all_eq_true.2 fun n hn=>(h.lnm n hn).elim (dnZ.1 n) (dnZ.2.2.1 n)];rfl
    · unfold hnZ
      rw [dnZ.2.1 _ (h.left x hx),decide_eq_true (h.rlen x hx),List.all_eq_true.2 fun n hn=>(h.rnm x hx n hn).elim (fun q=>dnZ.1 n (h.tname q)) fun q=>dnZ.2.1 n (h.rname q),h.act x hx]
      rcases h.prec x hx with q | q
      · rw [q];rfl
      · rw [dnZ.2.2.1 _ q.1,Bool.or_true];rfl
  have hv:∀ n,n∈(amZ (smG t l r)).2.1↔n∈r.map (·.1):=fun n=>by
    refine ((cZZ r).2 n).trans ?_
    rw [List.mem_map]
  have ht:(amZ (smG t l r)).1=pCZ::t.map (·.1):=rfl
  have hs:∀ n,(n∈t.map (·.1)∨n∈r.map (·.1))→0≤cXZ (amZ (smG t l r)) n:=fun n hn=>by
    unfold cXZ
    split
    · assumption
    · rename_i q1
      rcases hn with hn | hn
      · exact absurd (eMZ (by rw [ht];exact List.mem_cons_of_mem _ hn)) q1
      · have:=eMZ ((hv n).2 hn)
        rw [if_pos this];omega
  unfold ofO
  rw [if_neg (by rw [hR];decide)]
  have e1:b5Z (fun x:Tk=>decide (x.1∈(amZ (smG t l r)).2.1)) (smG t l r).1=-1:=by
    refine bFZ (List.any_eq_false.2 fun x hx q=>?_)
    have q:=(hv _).1 (of_decide_eq_true q)
    exact dnZ.2.2.2.1 _ (h.tok x hx).1 (h.rname q)
  rw [e1,if_neg (by decide)]
  have e2:r.findSome? (kyZ l (amZ (smG t l r)))=none:=by
    rw [List.findSome?_eq_none_iff]
    intro x hx
    unfold kyZ
    have e3:b5Z (fun n=>decide (cXZ (amZ (smG t l r)) n<0)) x.2.1=-1:=by
      refine bFZ (List.any_eq_false.2 fun n hn q=>?_)
      have:=hs n (h.rnm x hx n hn)
      have:=of_decide_eq_true q
      omega
    rw [e3,if_neg (by decide),if_neg]
    rintro ⟨q1,q2⟩
    rcases h.prec x hx with q | ⟨_,y,hy,hn⟩
    · exact q1 q
    · exact rSZ (List.mem_flatMap.2 ⟨y,hy,hn⟩) q2
  have e4:(koZ (smG t l r) (amZ (smG t l r))).2=false:=by
    unfold koZ
    dsimp only
    rw [e2]
    dsimp only
    rw [decide_eq_true ((hv _).2 h.stt.2)];rfl
  rw [if_neg (by rw [e4];decide)]
end Go.Am.N
