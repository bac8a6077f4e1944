/-
  A part of the proof of a law: see the text that states it.
-/
import Derived.Test.YtggaihkjnomflaaGreatDoorPK
import Derived.Test.YtggaihkjnomflaaGreatDoorPJ
import Derived.Test.YtggaihkjnomflaaGreatDoorPG
import Derived.Test.YtggaihkjnomflaaGreatDoorZS
import Derived.Test.YtggaihkjnomflaaGreatDoorVd3
import Derived.Test.YtggaihkjnomflaaGreatDoorVd6
import Derived.Test.YtggaihkjnomflaaGreatDoorAm4
set_option linter.all false
namespace Go.Am.N
open Go Go.Am.Pr Go.Am.N.L
open Go.Am.K (GoodG kAZ vrs lvs tSm Sml SmOK hKZ edZ gTZ)
set_option maxRecDepth 100000
section
variable {p:Pl} {x:Int}
theorem oQZ (h:x<0):bzZ p x=[]:=by unfold bzZ;rw [if_pos h]
theorem m0Z (h:0≤x) (h2:x<p.1.length):bzZ p x=p.1.getD x.toNat []:=by
 unfold bzZ
 rw [if_neg (by omega),if_neg (by unfold fwZ;omega),if_neg (by unfold fwZ;omega),if_pos (by unfold czZ;rw [decide_eq_true h,decide_eq_true h2];rfl)]
theorem n2Z (h:(p.1.length:Int)≤x) (h2:x<(p.1.length:Int)+p.2.1.length):bzZ p x=p.2.1.getD (x-p.1.length).toNat []:=by
 unfold bzZ
 rw [if_neg (by omega),if_neg (by unfold fwZ;omega),if_neg (by unfold fwZ;omega),if_neg (by unfold czZ;rw [decide_eq_false (p:=_<_) (by omega),Bool.and_false];decide)]
theorem pdZ (h:x=(p.1.length:Int)+p.2.1.length):bzZ p x=iGZ:=by
 unfold bzZ
 rw [if_neg (by omega),if_neg (by unfold fwZ;omega),if_pos (by unfold fwZ;omega)]
theorem qLZ (h:(p.1.length:Int)+p.2.1.length<x):bzZ p x=[]:=by
 unfold bzZ
 rw [if_neg (by omega),if_pos (by unfold fwZ;omega)]
end
theorem iVZ {p:Pl} (h:PlB p) (x:Int):E 14 [.tv [] tPl p,iv x] [] (sv (bzZ p x)) []:=by
 have h1:=h.t
 have h2:=h.v
 have a1:=@oQZ p x
 have a2:=@m0Z p x
 have a3:=@n2Z p x
 have a4:=@pdZ p x
 have a5:=@qLZ p x
 generalize bzZ p x=R at a1 a2 a3 a4 a5 ⊢
 obtain ⟨a,b,c,d,e,f,⟨⟩⟩:=p
 dsimp only at h1 h2 a1 a2 a3 a4 a5
 refine arZ (v7Z a b c d e f x _ ⟨fun q=>⟨fun q1=>⟨⟨?_⟩,?_⟩,fun q1=>⟨fun q2=>⟨⟨by omega⟩,fun q3=>⟨⟨?_⟩,⟨?_⟩,?_⟩,fun q3=>⟨⟨by omega⟩,fun q4=>?_,fun q4=>?_⟩⟩,fun q2=>⟨⟨by omega⟩,fun q4=>?_,fun q4=>?_⟩⟩⟩,fun q=>⟨fun q2=>⟨⟨by omega⟩,fun q3=>⟨⟨?_⟩,⟨?_⟩,?_⟩,fun q3=>⟨⟨by omega⟩,fun q4=>?_,fun q4=>?_⟩⟩,fun q2=>⟨⟨by omega⟩,fun q4=>?_,fun q4=>?_⟩⟩⟩)
 ·(simp only [dq1,dq2,dq3,dq4] at q q1);omega
 ·(simp only [dq1,dq2,dq3,dq4] at q q1);rw [a2 q q1];exact ⟨rfl,rfl⟩
 ·(simp only [dq1,dq2,dq3,dq4] at q q1 q2 q3);omega
 ·(simp only [dq1,dq2,dq3,dq4] at q q1 q2 q3);omega
 ·(simp only [dq1,dq2,dq3,dq4] at q q1 q2 q3);rw [a3 q2 q3];exact ⟨rfl,rfl⟩
 ·(simp only [dq1,dq2,dq3,dq4] at q q1 q2 q3 q4);rw [a4 q4];exact ⟨rfl,rfl⟩
 ·(simp only [dq1,dq2,dq3,dq4] at q q1 q2 q3 q4);rw [a5 (by omega)];exact ⟨rfl,rfl⟩
 ·(simp only [dq1,dq2,dq3,dq4] at q q1 q2 q4);omega
 ·(simp only [dq1,dq2,dq3,dq4] at q q1 q2 q4);omega
 ·(simp only [dq1,dq2,dq3,dq4] at q q2 q3);omega
 ·(simp only [dq1,dq2,dq3,dq4] at q q2 q3);omega
 ·(simp only [dq1,dq2,dq3,dq4] at q q2 q3);omega
 ·(simp only [dq1,dq2,dq3,dq4] at q q2 q3 q4);omega
 ·(simp only [dq1,dq2,dq3,dq4] at q q2 q3 q4);omega
 ·(simp only [dq1,dq2,dq3,dq4] at q q2 q4);omega
 ·(simp only [dq1,dq2,dq3,dq4] at q q2 q4);rw [a1 (by omega)];exact ⟨rfl,rfl⟩
structure PlT (p:Pl):Prop extends PlS p where
 n32:∀ x,(bzZ p x).length≤32
 r8:∀ x∈p.2.2.1,x.2.1.length≤8
theorem idZ {p:Pl} (h:PlT p) (i:Int):E 17 [.tv [] tPl p,iv i] [] (sv (fBZ p i)) []:=by
 have a1:=fun x=>iVZ h.toPlB x
 have h3:=h.r8
 have h4:=h.rn
 have hn:=h.n32
 have hs:fBZ p i=fBZ p i:=rfl
 conv at hs=>rhs;unfold fBZ
 clear h
 generalize hN:bzZ p=N at a1 hn hs
 obtain ⟨a,b,c,d,e,f,⟨⟩⟩:=p
 dsimp only at h3 h4 hs
 rw [hs]
 clear hs hN
 have hbn:1000000<awZ:=by decide
 refine arZ (vQZ a b c d e f i _ ⟨fun q=>?_,fun q=>⟨fun q2=>?_,fun q2=>?_⟩⟩)
 ·(simp only [dq1,dq2,dq3,dq4] at q);rw [if_pos q];exact ⟨rfl,rfl⟩
 ·(simp only [dq1,dq2,dq3,dq4] at q q2);rw [if_neg q,if_pos q2];exact ⟨rfl,rfl⟩
 ·(simp only [dq1,dq2,dq3,dq4] at q q2)
  rw [if_neg q,if_neg q2]
  have hm:=h3 _ (ahZ pd0 c i.toNat (by omega))
  generalize c.getD i.toNat pd0=x at hm ⊢
  obtain ⟨L,rs,v,⟨⟩⟩:=x
  dsimp only at hm ⊢
  have hL:=hn L
  refine ⟨⟨by omega⟩,_,⟨a1 L⟩,⟨by omega⟩,fun s z=>∃ k:Nat,z=k∧k≤rs.length∧s=N L++[32,58]++spW ((rs.take k).map N),fun _ z=>((rs.length:Int)-z).toNat,⟨0,rfl,by omega,by simp [spW]⟩,?_⟩
  rintro s z ⟨k,rfl,hk,rfl⟩
  have hsp:=rfZ ((rs.take k).map N) fun y hy=>by
   obtain ⟨w,_,rfl⟩:=List.mem_map.1 hy
   exact hn w
  have hlen:(N L++[32,58]++spW ((rs.take k).map N)).length≤400:=by
   rw [List.length_map,List.length_take] at hsp
   simp only [List.length_append,List.length_cons,List.length_nil]
   omega
  refine ⟨⟨by omega⟩,fun q3=>?_,fun q3=>?_⟩
  ·(simp only [dq1,dq2,dq3,dq4] at q3)
   have hk':k<rs.length:=by omega
   rw [Int.toNat_natCast]
   have hw:=hn (rs.getD k 0)
   refine ⟨⟨by omega⟩,⟨by omega⟩,⟨by omega⟩,_,⟨a1 _⟩,⟨?_⟩,⟨by omega⟩,⟨k+1,by omega,by omega,?_⟩,⟨by ((try dsimp only);omega)⟩⟩
   ·rw [List.length_append,List.length_singleton];omega
   ·rw [aaZ (0:Int) hk',List.map_append,rLZ];simp [spW]
  ·(simp only [dq1,dq2,dq3,dq4] at q3)
   rw [List.take_of_length_le (show rs.length≤k by omega)]
   exact ⟨rfl,rfl⟩
theorem GoodP.plT {g:Gr} (h:GoodP g):PlT (dGZ g (amZ g)):=by
 refine ⟨h.plS,fun x=>?_,fun x hx=>?_⟩
 ·have hl:=h.len32
  have hh:bzZ (dGZ g (amZ g)) x=bzZ (amZ g) x:=rfl
  rw [hh]
  have key:∀ (l:List qT0) (k:Nat),(∀ y∈l,y.length≤32)→(l.getD k []).length≤32:=fun l k hl=>by
   by_cases hk:k<l.length
   ·exact hl _ (ahZ _ l _ hk)
   ·rw [List.getD_eq_getElem?_getD,List.getElem?_eq_none (by omega)];exact Nat.zero_le _
  unfold bzZ
  split
  ·exact Nat.zero_le _
  ·split
   ·exact Nat.zero_le _
   ·split
    ·unfold iGZ;decide
    ·split
     ·exact key _ _ hl.1
     ·exact key _ _ hl.2
 ·rcases List.mem_cons.1 hx with rfl | hx
  ·show ([_]:List Int).length≤8
   rw [List.length_singleton];decide
  ·obtain ⟨r,hr,rfl⟩:=List.mem_map.1 hx
   show (r.2.1.map _).length≤8
   rw [List.length_map];exact (aPZ (h.rn r hr)).2.1
theorem fVZ {α:Type} (f:α→Nat) (B:Nat):∀ l:List α,(∀ x∈l,f x≤B)→eCZ f l≤l.length * B
 | [],_=>Nat.zero_le _
 | x::l,h=>by
  have h1:=h x (List.mem_cons_self ..)
  have ih:=fVZ f B l fun y hy=>h y (List.mem_cons_of_mem _ hy)
  rw [cPZ,List.length_cons,Nat.add_mul];omega
theorem s4Z {g:Gr} (hR:clZ g=true) (hf:Few g):Bd g 1048576:=by
  obtain ⟨⟨_,t2,_⟩,⟨_,l2,l3⟩,s1,_,_,_,r2,r3⟩:=(c7Z g).1 hR
  have c1:=fVZ fTk 30000 g.1 fun t ht=>by have:=hf.tks t ht;unfold fTk;omega
  have c2:=fVZ fSk 20000 g.2.1 fun t ht=>by have:=hf.sks t ht;unfold fSk;omega
  have hn:∀ (l:List qT0),(∀ x∈l,a4Z x=true)→nmW l≤l.length * 33:=fun l h=>fVZ _ 33 l fun x hx=>by have:=bdZ (h x hx);omega
  have c4:=fVZ fRl 11000 g.2.2.2.2.1 fun r hr=>by
    obtain ⟨q1,q2,q3,q4,q5⟩:=aPZ (r3 r hr)
    have h1:=bdZ q1
    have h2:=hn r.2.1 fun x hx=>List.all_eq_true.1 q3 x hx
    have h3:r.2.2.1.length≤32:=by
      rcases q4 with q4 | q4
      · rw [q4];exact Nat.zero_le _
      · exact bdZ q4
    have h4:=(hf.rls r hr).2.2.2.2
    unfold fRl;omega
  have c3:eCZ fLv g.2.2.1≤1048576:=by
    have hlv:=hf.lvn
    simp only [crZ,Bool.and_eq_true,List.all_eq_true] at l3
    have key:∀ l:List Lv,(∀ n∈l.flatMap (·.2.1),a4Z n=true)→eCZ fLv l≤(l.flatMap (·.2.1)).length * 33:=by
      intro l
      induction l with
      | nil=>intro _;exact Nat.zero_le _
      | cons x l ih =>
        intro h
        have i1:=ih fun n hn=>h n (by rw [List.flatMap_cons];exact List.mem_append_right _ hn)
        have i2:=hn x.2.1 fun n hn=>h n (by rw [List.flatMap_cons];exact List.mem_append_left _ hn)
        rw [cPZ,List.flatMap_cons,List.length_append,Nat.add_mul]
        have:fLv x=nmW x.2.1:=rfl
        omega
    have:=key _ l3.1
    omega
  refine ⟨by omega,by omega,by omega,by omega,by omega,c3,by omega,by omega⟩
theorem odZ {t:List Tk} {l:List Lv} {r:List Rl} (h:GoodG t l [83] r):ByG (smG t l r):=by
 have bb:(∀ x∈kAZ,∀ c∈x,0≤c∧c<256)∧(∀ x∈vrs,∀ c∈x,0≤c∧c<256)∧∀ x∈lvs,∀ c∈x,0≤c∧c<256:=by decide
 refine ⟨fun x hx=>bb.1 _ (h.tok x hx).1,fun x hx s hs=>?_,(by decide:∀ c∈([83]:List Int),0≤c∧c<256),fun x hx=>⟨bb.2.1 _ (h.left x hx),fun s hs=>?_,?_,?_⟩⟩
 ·rcases h.lnm s (List.mem_flatMap.2 ⟨x,hx,hs⟩) with q | q
  ·exact bb.1 _ q
  ·exact bb.2.2 _ q
 ·rcases h.rnm x hx s hs with q | q
  ·exact bb.1 _ (h.tname q)
  ·exact bb.2.1 _ (h.rname q)
 ·rcases h.prec x hx with q | q
  ·rw [q];nofun
  ·exact bb.2.2 _ q.1
 ·show rbZ x
  unfold rbZ
  rw [h.act x hx];nofun
theorem vgZ {s:Sml} (hi:InR tSm s) (h:s.2.2.1.length≤20∧s.2.2.2.2.2.1.length≤5∧∀ x∈s.2.2.2.1,x.length≤8):SmOK s:=by
 obtain ⟨x0,x1,a2,a3,a4,a5,a6,_⟩:=s
 simp only [InR] at hi
 obtain ⟨i0,i1,⟨_,i2⟩,⟨_,i3⟩,⟨_,i4⟩,⟨_,i5⟩,⟨_,i6⟩,_⟩:=hi
 have mem:∀ l:List Int,(∀ i,i<l.length→(Lit.int .u8 (l.getD i 0)).wf=true)→∀ x∈l,gTZ x:=fun l h x hx=>by
  obtain ⟨i,hi,rfl⟩:=List.mem_iff_getElem.1 hx
  have:=h i hi
  rw [List.getD_eq_getElem?_getD,List.getElem?_eq_getElem hi] at this
  exact p7Z this
 refine ⟨p7Z i0,p7Z i1,mem _ i2,fun l hl=>?_,mem _ i4,mem _ i5,mem _ i6,h.1,h.2.1,h.2.2⟩
 obtain ⟨i,hi,rfl⟩:=List.mem_iff_getElem.1 hl
 have:=(i3 i hi).2
 rw [List.getD_eq_getElem?_getD,List.getElem?_eq_getElem hi] at this
 exact mem _ this
theorem trZ {s:Sml} (hi:InR tSm s):s.2.2.2.1.length≤9223372036854775807:=by
 obtain ⟨x0,x1,a2,a3,a4,a5,a6,_⟩:=s
 simp only [InR] at hi
 have:=hi.2.2.2.1.1
 unfold maxLen at this
 exact this
theorem r7Z {s:Sml} {b:Int} (hb:b≤8) (h:twZ s 20 b=true):s.2.2.1.length≤20∧s.2.2.2.2.2.1.length≤5∧∀ x∈s.2.2.2.1,x.length≤8:=by
 unfold twZ at h
 simp only [Bool.and_eq_true,decide_eq_true_eq,List.all_eq_true] at h
 exact ⟨by omega,h.2.1,fun x hx=>by have:=h.2.2 x hx;omega⟩
theorem k8Z {t:List Tk} {l:List Lv} {r:List Rl} (h:GoodG t l [83] r):clZ (smG t l r)=true∧GoodP (smG t l r):=by
 have e:=h0Z h
 rcases jwZ (smG t l r) with ⟨_,c2,_⟩ | ⟨_,c⟩
 ·rw [e] at c2;exact absurd rfl c2
 ·refine ⟨?_,c⟩
  cases hR:clZ (smG t l r) with
  | true=>rfl
  | false =>
   unfold ofO at e
   rw [if_pos hR] at e
   exact absurd (show (1:Int)=0 from congrArg (fun q=>q.2.1) e) (by decide)
theorem mMZ {s:Sml} (h:SmOK s):∃ p,PlT p∧E 11 [.tv [] tSm s] [] (.tv [] tPl p) []:=by
 obtain ⟨t,l,r,e,hg⟩:=edZ s h
 have G:=scZ h
 rw [e] at G
 have hf:=nOZ hg
 obtain ⟨hR,hP⟩:=k8Z hg
 have O:=rjZ (smG t l r) hf (s4Z hR hf) (odZ hg)
 rw [h0Z hg] at O
 refine ⟨_,hP.plT,?_⟩
 generalize dGZ (smG t l r) (amZ (smG t l r))=P at O
 obtain ⟨a,b,c,d,e',f,⟨⟩⟩:=P
 obtain ⟨x0,x1,a2,a3,a4,a5,a6,⟨⟩⟩:=s
 exact arZ (v9Z x0 x1 a2 a3 a4 a5 a6 _ ⟨t,[],l,[83],r,⟨G⟩,a,b,c,d,e',f,_,_,⟨O⟩,rfl,rfl⟩)
theorem tells (s:Sml) (text:List Int) (n:Int) (name:List Int) (hi:InR tSm s) (ht:∀ c∈text,0≤c∧c<256):E 4 [.tv [] tSm s,sv text,iv n,sv name] [] (bv true) []:=by
 have hf:=rZZ s 20 8 (trZ hi)
 cases hb:twZ s 20 8 with
 | false =>
  rw [hb] at hf
  obtain ⟨x0,x1,a2,a3,a4,a5,a6,⟨⟩⟩:=s
  exact arZ (vc4 x0 x1 a2 a3 a4 a5 a6 text n name _ ⟨true,⟨jjZ⟩,_,⟨hf⟩,fun _=>⟨rfl,rfl⟩,fun q=>absurd q (by decide)⟩)
 | true =>
 rw [hb] at hf
 obtain ⟨p,HP,PE⟩:=mMZ (vgZ hi (r7Z (b:=8) (by decide) hb))
 clear hb hi
 obtain ⟨x0,x1,a2,a3,a4,a5,a6,⟨⟩⟩:=s
 refine arZ (vc4 x0 x1 a2 a3 a4 a5 a6 text n name _ ⟨true,⟨jjZ⟩,_,⟨hf⟩,fun _=>⟨rfl,rfl⟩,fun _=>⟨fun _=>⟨rfl,rfl⟩,fun h1=>⟨fun _=>⟨rfl,rfl⟩,fun h2=>?_⟩⟩⟩)
 (simp only [dq1,dq2,dq3,dq4] at h1)
 have hl:text.length≤4000:=by omega
 have RD:=tlZ text hl ht
 clear hf h2
 obtain ⟨p1,p2,p3,p4,p5,p6,⟨⟩⟩:=p
 rcases nbZ text hl ht with ⟨ec,ep,h,hc⟩ | ⟨g,h,hr,hby,hbp,hfw⟩
 ·rw [h] at RD
  refine ⟨p1,p2,p3,p4,p5,p6,⟨PE⟩,_,_,_,_,_,_,_,_,⟨RD⟩,fun q=>absurd q (by simp [hc]),fun _=>?_⟩
  obtain ⟨hb1,hb2⟩:=HP.toPlB
  have N:=fun x=>e8Z HP.toPlB x
  have NR:=fun x=>iVZ HP.toPlB x
  have TE:=fun x=>gCZ HP.toPlB x
  have SH:=fun x=>iaZ HP.toPlS x
  have SR:=fun x=>idZ HP x
  have AC:=h1Z HP.toPlB
  have SY:=f3Z HP.toPlB name
  have YR:=iOZ HP.toPlB name
  have hT:∀ x,czZ (p1,(p2,(p3,(p4,(p5,(p6,())))))) x=(decide (0≤x)&&decide (x<((p1,(p2,(p3,(p4,(p5,(p6,())))))).1.length:Int))):=fun x=>rfl
  have hA:fwZ (p1,(p2,(p3,(p4,(p5,(p6,()))))))=((p1,(p2,(p3,(p4,(p5,(p6,())))))).1.length:Int)+(p1,(p2,(p3,(p4,(p5,(p6,())))))).2.1.length:=rfl
  have hlr:=HP.rn
  clear HP
  generalize bzZ (p1,(p2,(p3,(p4,(p5,(p6,()))))))=NN at N NR
  generalize fBZ (p1,(p2,(p3,(p4,(p5,(p6,()))))))=SS at SH SR
  generalize cXZ (p1,(p2,(p3,(p4,(p5,(p6,())))))) name=S0 at SY YR
  generalize fwZ (p1,(p2,(p3,(p4,(p5,(p6,()))))))=A0 at AC hA
  generalize czZ (p1,(p2,(p3,(p4,(p5,(p6,()))))))=TT at TE hT
  dsimp only at hb1 hb2 hT hA hlr
  refine ⟨⟨by omega⟩,fun z=>-1≤z∧z≤(p1.length:Int)+p2.length+2,fun z=>((p1.length:Int)+p2.length+2-z).toNat,⟨by omega,by omega⟩,?_⟩
  rintro z ⟨hz0,hz1⟩
  refine ⟨⟨by omega⟩,fun q1=>⟨_,⟨N z⟩,_,⟨NR z⟩,fun q2=>absurd q2 (by simp),fun _=>⟨_,⟨TE z⟩,fun q3=>⟨fun q4=>?_,fun q4=>⟨⟨by omega⟩,⟨by simp⟩,⟨by omega,?_⟩,⟨?_⟩⟩⟩,fun q3=>⟨fun q4=>?_,fun q4=>⟨⟨by omega⟩,⟨by simp⟩,⟨by omega,?_⟩,⟨?_⟩⟩⟩⟩⟩,fun q1=>?_⟩
  ·(simp only [dq1,dq2,dq3,dq4] at q3)
   rw [hT z,decide_eq_true q3,Bool.true_and] at q4
   simp at q4
  ·(simp only [dq1,dq2,dq3,dq4] at q1);(try dsimp only);omega
  ·(simp only [dq1,dq2,dq3,dq4] at q1);(try dsimp only);omega
  ·rw [hT z,q3,Bool.false_and] at q4
   simp at q4
  ·(simp only [dq1,dq2,dq3,dq4] at q1);(try dsimp only);omega
  ·(simp only [dq1,dq2,dq3,dq4] at q1);(try dsimp only);omega
  ·clear q1 hz0 hz1 z
   refine ⟨fun z=>-1≤z∧z≤(p3.length:Int)+1,fun z=>((p3.length:Int)+1-z).toNat,⟨by omega,by omega⟩,?_⟩
   rintro z ⟨hz0,hz1⟩
   refine ⟨fun q1=>⟨_,⟨SH z⟩,_,⟨SR z⟩,fun q2=>absurd q2 (by simp),fun _=>⟨⟨by omega⟩,⟨by simp⟩,⟨by omega,?_⟩,⟨?_⟩⟩⟩,fun _=>⟨fun _=>⟨_,⟨AC⟩,fun _=>⟨_,⟨N n⟩,_,⟨NR n⟩,fun _=>⟨_,⟨SY⟩,_,⟨YR⟩,fun _=>⟨_,⟨SH n⟩,_,⟨SR n⟩,tvB (decide_eq_true rfl),rfl⟩,fun q=>absurd q (by simp)⟩,fun q=>absurd q (by simp)⟩,fun q=>absurd q (by simp [hA])⟩,fun q=>absurd q (by decide)⟩⟩
   ·(simp only [dq1,dq2,dq3,dq4] at q1);(try dsimp only);omega
   ·(simp only [dq1,dq2,dq3,dq4] at q1);(try dsimp only);omega
 ·rw [h] at RD
  have O:=rjZ g hfw (s4Z hr hfw) hby
  have hcs:=jwZ g
  generalize ofO g=o at O hcs
  obtain ⟨⟨b1,b2,b3,b4,b5,b6,⟨⟩⟩,er,es⟩:=o
  obtain ⟨tk,sk,lv,st,rl,⟨⟩⟩:=g
  refine ⟨p1,p2,p3,p4,p5,p6,⟨PE⟩,tk,sk,lv,st,rl,_,_,_,⟨RD⟩,fun _=>⟨b1,b2,b3,b4,b5,b6,er,es,⟨O⟩,fun q=>?_,fun q=>?_⟩,fun q=>absurd q (by simp)⟩
  ·(simp only [dq1,dq2,dq3,dq4] at q)
   rcases hcs with ⟨_,c2,_⟩ | ⟨c1,c⟩
   ·exact absurd q c2
   have HQ:=c.plT
   rw [show dGZ (tk,(sk,(lv,(st,(rl,()))))) (amZ (tk,(sk,(lv,(st,(rl,()))))) )=_ from (congrArg Prod.fst c1).symm] at HQ
   clear c c1 HP PE O RD h hr hby hbp hfw
   have HP:PlT (b1,(b2,(b3,(b4,(b5,(b6,())))))):=HQ
   clear HQ
   obtain ⟨hb1,hb2⟩:=HP.toPlB
   have N:=fun x=>e8Z HP.toPlB x
   have NR:=fun x=>iVZ HP.toPlB x
   have TE:=fun x=>gCZ HP.toPlB x
   have SH:=fun x=>iaZ HP.toPlS x
   have SR:=fun x=>idZ HP x
   have AC:=h1Z HP.toPlB
   have SY:=f3Z HP.toPlB name
   have YR:=iOZ HP.toPlB name
   have hT:∀ x,czZ (b1,(b2,(b3,(b4,(b5,(b6,())))))) x=(decide (0≤x)&&decide (x<((b1,(b2,(b3,(b4,(b5,(b6,())))))).1.length:Int))):=fun x=>rfl
   have hA:fwZ (b1,(b2,(b3,(b4,(b5,(b6,()))))))=((b1,(b2,(b3,(b4,(b5,(b6,())))))).1.length:Int)+(b1,(b2,(b3,(b4,(b5,(b6,())))))).2.1.length:=rfl
   have hlr:=HP.rn
   clear HP
   generalize bzZ (b1,(b2,(b3,(b4,(b5,(b6,()))))))=NN at N NR
   generalize fBZ (b1,(b2,(b3,(b4,(b5,(b6,()))))))=SS at SH SR
   generalize cXZ (b1,(b2,(b3,(b4,(b5,(b6,())))))) name=S0 at SY YR
   generalize fwZ (b1,(b2,(b3,(b4,(b5,(b6,()))))))=A0 at AC hA
   generalize czZ (b1,(b2,(b3,(b4,(b5,(b6,()))))))=TT at TE hT
   dsimp only at hb1 hb2 hT hA hlr
   refine ⟨⟨by omega⟩,fun z=>-1≤z∧z≤(b1.length:Int)+b2.length+2,fun z=>((b1.length:Int)+b2.length+2-z).toNat,⟨by omega,by omega⟩,?_⟩
   rintro z ⟨hz0,hz1⟩
   refine ⟨⟨by omega⟩,fun q1=>⟨_,⟨N z⟩,_,⟨NR z⟩,fun q2=>absurd q2 (by simp),fun _=>⟨_,⟨TE z⟩,fun q3=>⟨fun q4=>?_,fun q4=>⟨⟨by omega⟩,⟨by simp⟩,⟨by omega,?_⟩,⟨?_⟩⟩⟩,fun q3=>⟨fun q4=>?_,fun q4=>⟨⟨by omega⟩,⟨by simp⟩,⟨by omega,?_⟩,⟨?_⟩⟩⟩⟩⟩,fun q1=>?_⟩
   ·(simp only [dq1,dq2,dq3,dq4] at q3)
    rw [hT z,decide_eq_true q3,Bool.true_and] at q4
    simp at q4
   ·(simp only [dq1,dq2,dq3,dq4] at q1);(try dsimp only);omega
   ·(simp only [dq1,dq2,dq3,dq4] at q1);(try dsimp only);omega
   ·rw [hT z,q3,Bool.false_and] at q4
    simp at q4
   ·(simp only [dq1,dq2,dq3,dq4] at q1);(try dsimp only);omega
   ·(simp only [dq1,dq2,dq3,dq4] at q1);(try dsimp only);omega
   ·clear q1 hz0 hz1 z
    refine ⟨fun z=>-1≤z∧z≤(b3.length:Int)+1,fun z=>((b3.length:Int)+1-z).toNat,⟨by omega,by omega⟩,?_⟩
    rintro z ⟨hz0,hz1⟩
    refine ⟨fun q1=>⟨_,⟨SH z⟩,_,⟨SR z⟩,fun q2=>absurd q2 (by simp),fun _=>⟨⟨by omega⟩,⟨by simp⟩,⟨by omega,?_⟩,⟨?_⟩⟩⟩,fun _=>⟨fun _=>⟨_,⟨AC⟩,fun _=>⟨_,⟨N n⟩,_,⟨NR n⟩,fun _=>⟨_,⟨SY⟩,_,⟨YR⟩,fun _=>⟨_,⟨SH n⟩,_,⟨SR n⟩,tvB (decide_eq_true rfl),rfl⟩,fun q=>absurd q (by simp)⟩,fun q=>absurd q (by simp)⟩,fun q=>absurd q (by simp [hA])⟩,fun q=>absurd q (by decide)⟩⟩
    ·(simp only [dq1,dq2,dq3,dq4] at q1);(try dsimp only);omega
    ·(simp only [dq1,dq2,dq3,dq4] at q1);(try dsimp only);omega
  ·clear hcs O RD h hr hby hbp hfw
   obtain ⟨hb1,hb2⟩:=HP.toPlB
   have N:=fun x=>e8Z HP.toPlB x
   have NR:=fun x=>iVZ HP.toPlB x
   have TE:=fun x=>gCZ HP.toPlB x
   have SH:=fun x=>iaZ HP.toPlS x
   have SR:=fun x=>idZ HP x
   have AC:=h1Z HP.toPlB
   have SY:=f3Z HP.toPlB name
   have YR:=iOZ HP.toPlB name
   have hT:∀ x,czZ (p1,(p2,(p3,(p4,(p5,(p6,())))))) x=(decide (0≤x)&&decide (x<((p1,(p2,(p3,(p4,(p5,(p6,())))))).1.length:Int))):=fun x=>rfl
   have hA:fwZ (p1,(p2,(p3,(p4,(p5,(p6,()))))))=((p1,(p2,(p3,(p4,(p5,(p6,())))))).1.length:Int)+(p1,(p2,(p3,(p4,(p5,(p6,())))))).2.1.length:=rfl
   have hlr:=HP.rn
   clear HP
   generalize bzZ (p1,(p2,(p3,(p4,(p5,(p6,()))))))=NN at N NR
   generalize fBZ (p1,(p2,(p3,(p4,(p5,(p6,()))))))=SS at SH SR
   generalize cXZ (p1,(p2,(p3,(p4,(p5,(p6,())))))) name=S0 at SY YR
   generalize fwZ (p1,(p2,(p3,(p4,(p5,(p6,()))))))=A0 at AC hA
   generalize czZ (p1,(p2,(p3,(p4,(p5,(p6,()))))))=TT at TE hT
   dsimp only at hb1 hb2 hT hA hlr
   refine ⟨⟨by omega⟩,fun z=>-1≤z∧z≤(p1.length:Int)+p2.length+2,fun z=>((p1.length:Int)+p2.length+2-z).toNat,⟨by omega,by omega⟩,?_⟩
   rintro z ⟨hz0,hz1⟩
   refine ⟨⟨by omega⟩,fun q1=>⟨_,⟨N z⟩,_,⟨NR z⟩,fun q2=>absurd q2 (by simp),fun _=>⟨_,⟨TE z⟩,fun q3=>⟨fun q4=>?_,fun q4=>⟨⟨by omega⟩,⟨by simp⟩,⟨by omega,?_⟩,⟨?_⟩⟩⟩,fun q3=>⟨fun q4=>?_,fun q4=>⟨⟨by omega⟩,⟨by simp⟩,⟨by omega,?_⟩,⟨?_⟩⟩⟩⟩⟩,fun q1=>?_⟩
   ·(simp only [dq1,dq2,dq3,dq4] at q3)
    rw [hT z,decide_eq_true q3,Bool.true_and] at q4
    simp at q4
   ·(simp only [dq1,dq2,dq3,dq4] at q1);(try dsimp only);omega
   ·(simp only [dq1,dq2,dq3,dq4] at q1);(try dsimp only);omega
   ·rw [hT z,q3,Bool.false_and] at q4
    simp at q4
   ·(simp only [dq1,dq2,dq3,dq4] at q1);(try dsimp only);omega
   ·(simp only [dq1,dq2,dq3,dq4] at q1);(try dsimp only);omega
   ·clear q1 hz0 hz1 z
    refine ⟨fun z=>-1≤z∧z≤(p3.length:Int)+1,fun z=>((p3.length:Int)+1-z).toNat,⟨by omega,by omega⟩,?_⟩
    rintro z ⟨hz0,hz1⟩
    refine ⟨fun q1=>⟨_,⟨SH z⟩,_,⟨SR z⟩,fun q2=>absurd q2 (by simp),fun _=>⟨⟨by omega⟩,⟨by simp⟩,⟨by omega,?_⟩,⟨?_⟩⟩⟩,fun _=>⟨fun _=>⟨_,⟨AC⟩,fun _=>⟨_,⟨N n⟩,_,⟨NR n⟩,fun _=>⟨_,⟨SY⟩,_,⟨YR⟩,fun _=>⟨_,⟨SH n⟩,_,⟨SR n⟩,tvB (decide_eq_true rfl),rfl⟩,fun q=>absurd q (by simp)⟩,fun q=>absurd q (by simp)⟩,fun q=>absurd q (by simp [hA])⟩,fun q=>absurd q (by decide)⟩⟩
    ·(simp only [dq1,dq2,dq3,dq4] at q1);(try dsimp only);omega
    ·(simp only [dq1,dq2,dq3,dq4] at q1);(try dsimp only);omega
end Go.Am.N
