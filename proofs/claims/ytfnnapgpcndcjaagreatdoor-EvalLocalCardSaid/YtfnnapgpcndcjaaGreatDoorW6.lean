/-
  A part of the proof of a law: see the text that states it.
-/
import Derived.Test.YtfnnapgpcndcjaaGreatDoorW5
import Derived.Test.YtfnnapgpcndcjaaGreatDoorTN
import Derived.Test.YtfnnapgpcndcjaaGreatDoorTZ3
import Derived.Test.YtfnnapgpcndcjaaGreatDoorVc1
set_option linter.all false
namespace Go.Am.Z.W
open Go Go.Am.Z.T Go.Am.Z.V
set_option maxRecDepth 100000
theorem leaf_step (k g gr:Nat) (l z:List Th) (b c:Int) (x:Tok) (hk:k≤100) (H:Ok 1000 k l z b) :
  ∃ g' z' gr' b' c' i e i' e',Ok 1000 (k+1) (leafL l x) z' b'∧E 34 [.op (0,0) [],.tv [] tTok x] (hT g l z b 1000 b c) (.tup [iv i,iv e]) (hT g' (leafL l x) z' b' 1000 b' c')∧E 35 [.op (0,0) [],.tv [] tTok x] (hR gr (toRL l) 1000 b c) (.tup [iv i',iv e']) (hR gr' (toRL (leafL l x)) 1000 b' c'):=by
 have hb:=H.nn
 have hle:=H.le
 have hlim:=H.lim
 have hlen:=H.len
 have hll:l.length≤k:=by rw [List.length_append] at hlen;omega
 have hsum:=H.sum
 by_cases hq:1000-b<1
 ·have e:leafL l x=l:=by unfold leafL;rw [hsum,if_pos hq]
  rw [e]
  exact ⟨g,z,gr,b,c,_,_,_,_,⟨H.tr,hsum,hle,hlim,by omega⟩,leaf_no g l z b 1000 b c x hb hle hlim hq,rleaf_no gr l 1000 b c x hb hle hlim hq⟩
 ·have e:leafL l x=l++[leafT x]:=by unfold leafL;rw [hsum,if_neg hq]
  rw [e]
  exact ⟨g+1,[],gr+1,b+1,max c (b+1),_,_,_,_,⟨.leaf _ _ H.tr,by rw [cellS_snoc,hsum],by omega,hlim,by simp only [List.length_append,List.length_cons,List.length_nil];omega⟩,leaf_ok g l z b 1000 b c x hb hle hlim (by omega) (by omega) hb (by omega),rleaf_ok gr l 1000 b c x hb hle hlim (by omega) (by omega)⟩
theorem node_step (k g gr:Nat) (l z:List Th) (b c r s:Int) (ks:List Int) (hks:ks.length≤1000) (hk:k≤100) (H:Ok 1000 k l z b) :
  ∃ g' z' gr' b' c' i e,Ok 1000 (k+1) (nodL l r s ks) z' b'∧E 36 [.op (0,0) [],iv r,iv s,lv ks] (hT g l z b 1000 b c) (.tup [iv i,iv e]) (hT g' (nodL l r s ks) z' b' 1000 b' c')∧E 37 [.op (0,0) [],iv r,iv s,lv ks] (hR gr (toRL l) 1000 b c) (.tup [iv i,iv e]) (hR gr' (toRL (nodL l r s ks)) 1000 b' c'):=by
 have hb:=H.nn
 have hle:=H.le
 have hlim:=H.lim
 have hlen:=H.len
 have hll:l.length≤k:=by rw [List.length_append] at hlen;omega
 have hsum:=H.sum
 obtain ⟨g',z',e1,hz⟩:=node_tv g l z 1000 b c r s ks hb hle hlim (by omega) hks
 obtain ⟨gr',e2⟩:=rnode_tv gr l 1000 b c r s ks hb hle hlim (by omega) hks
 have en:nodL l r s ks=nodeL l 1000 b r s ks:=by unfold nodL;rw [hsum]
 have ht:=nodL_tr H.tr r s hks
 rw [en] at ht ⊢
 refine ⟨g',z',gr',_,_,_,_,⟨ht,?_,?_,hlim,by omega⟩,e1,e2⟩
 ·unfold nodeL nodeB
  split
  ·rename_i hr
   obtain ⟨hi,_,_⟩:=nodeR_ok hr
   rw [cellS_markN (inAll_snoc hi),cellS_snoc,hsum]
  ·exact hsum
 ·unfold nodeB
  split
  ·rename_i hr
   obtain ⟨_,_,hi⟩:=nodeR_ok hr
   omega
  ·exact hle
theorem freeK_zero (l:List Th) (m:Nat) (acc:List Int):freeK l m 0 acc=acc:=rfl
theorem freeK_succ (l:List Th) (m j:Nat) (acc:List Int):freeK l m (j+1) acc=if acc.length<m then (if belN l (j:Int)=true then freeK l m j acc else freeK l m j ((j:Int)::acc)) else acc:=rfl
theorem madeL_snoc (p:Pl) (toks:List Tok) (bs:List Int) {k:Nat} (hk:k<bs.length):madeL p toks (bs.take (k+1))=madeS p toks (madeL p toks (bs.take k)) (bs.getD k 0):=by
 unfold madeL
 rw [take_snoc (0:Int) hk,List.foldl_append];rfl
theorem madeL_n (p:Pl) (toks:List Tok):∀ (bs:List Int) (s:List Th×Nat),(bs.foldl (madeS p toks) s).2≤s.2+bs.length
 | [],s=>by simp
 | b::bs,s=>by
  have ih:=madeL_n p toks bs (madeS p toks s b)
  have h1:(madeS p toks s b).2≤s.2+1:=by unfold madeS;simp only;split <;> (try split) <;> simp
  simp only [List.foldl_cons,List.length_cons];omega
theorem made_ev (p:Pl) (hp:GoodP p) (bs:List Int) (hbs:∀ b∈bs,isBy b) (toks:List Tok) (hn:bs.length≤100) :
  ∃ g z gr b c,Ok 1000 100 (madeL p toks bs).1 z b∧E 10 [.tv [] tPl p,.tv [] qt17 bs,.tv [] (.slice tTok) toks] [] (.tup [.op (1,0) [],.op (1,1) []]) (hMade g (madeL p toks bs).1 z gr 1000 b c):=by
 obtain ⟨p0,p1,p2,p3,p4,p5,_⟩:=p
 have hrl:=hp.rules
 have hrt:=hp.right
 simp only at hrl hrt
 have key:EvF PP orc 10 [.tv [] tPl (p0,p1,p2,p3,p4,p5,()),.tv [] qt17 bs,.tv [] (.slice tTok) toks] [] fun v h=>∃ g z gr b c,Ok 1000 100 (madeL (p0,p1,p2,p3,p4,p5,()) toks bs).1 z b∧v=.tup [.op (1,0) [],.op (1,1) []]∧h=hMade g (madeL (p0,p1,p2,p3,p4,p5,()) toks bs).1 z gr 1000 b c:=by
  refine vc10 p0 p1 p2 p3 p4 p5 bs toks _ ?_
  ((repeat apply Exists.intro);refine And.intro (Need.mk (mnew_ev 1000)) ?_)
  ((repeat apply Exists.intro);refine And.intro (Need.mk (tnew_ev (heldK 1000) 0 0)) ?_)
  refine ⟨nofun,fun _=>?_⟩
  refine ⟨fun n i gr m gr' rl a b c g' y g m' cc a' b' c'=>∃ (k G GR:Nat) (z:List Th),i=k∧k≤bs.length∧n=((madeL (p0,p1,p2,p3,p4,p5,()) toks (bs.take k)).2:Int)∧gr=(GR:Int)∧m=((toRL (madeL (p0,p1,p2,p3,p4,p5,()) toks (bs.take k)).1).length:Int)∧gr'=(GR:Int)∧rl=toRL (madeL (p0,p1,p2,p3,p4,p5,()) toks (bs.take k)).1∧a=1000∧g'=(G:Int)∧y=(madeL (p0,p1,p2,p3,p4,p5,()) toks (bs.take k)).1++z∧g=(G:Int)∧m'=((madeL (p0,p1,p2,p3,p4,p5,()) toks (bs.take k)).1.length:Int)∧cc=b∧a'=1000∧b'=b∧c'=c∧Ok 1000 k (madeL (p0,p1,p2,p3,p4,p5,()) toks (bs.take k)).1 z b,
   fun _ i _ _ _ _ _ _ _ _ _ _ _ _ _ _ _=>((bs.length:Int)-i).toNat,⟨tr0⟩,⟨0,0,0,[],rfl,by omega,tr0,tr0,tr0,tr0,tr0,tr0,tr0,tr0,tr0,tr0,tr0,tr0,tr0,tr0,⟨.nil,rfl,by omega,by decide,by simp [madeL]⟩⟩,?_⟩
  rintro _ _ _ _ _ _ _ b c _ _ _ _ cc a' b' c' ⟨k,G,GR,z,rfl,hk1,rfl,rfl,rfl,rfl,rfl,rfl,rfl,rfl,rfl,rfl,e1,rfl,e3,e4,H⟩
  subst e1 e3 e4
  have hmn:=madeL_n (p0,p1,p2,p3,p4,p5,()) toks (bs.take k) ([],0)
  rw [List.length_take] at hmn
  simp only at hmn
  rw [show List.foldl (madeS (p0,p1,p2,p3,p4,p5,()) toks) ([],0) (bs.take k)=madeL (p0,p1,p2,p3,p4,p5,()) toks (bs.take k) from rfl] at hmn
  refine ⟨fun h=>?_,fun h=>?_⟩
  ·(simp only [dq1,dq2,dq3,dq4] at h)
   have hk':k<bs.length:=by omega
   have hby:=hbs _ (getD_mem' (0:Int) hk')
   unfold isBy at hby
   have hst:=madeL_snoc (p0,p1,p2,p3,p4,p5,()) toks bs hk'
   generalize madeL (p0,p1,p2,p3,p4,p5,()) toks (bs.take (k+1))=w' at hst
   have hinv:∀ (l':List Th) (n':Nat),w'=(l',n')→madeL (p0,p1,p2,p3,p4,p5,()) toks (bs.take (k+1))=w'→True:=fun _ _ _ _=>trivial
   clear hinv
   have hst2:=madeL_snoc (p0,p1,p2,p3,p4,p5,()) toks bs hk'
   rw [← hst] at hst2
   generalize madeL (p0,p1,p2,p3,p4,p5,()) toks (bs.take k)=w at hst H hmn
   obtain ⟨l,n⟩:=w
   simp only at H hmn
   rw [Int.toNat_natCast]
   have hll:l.length≤k:=by have:=H.len;rw [List.length_append] at this;omega
   have tmk:=T.tm (n:=(p2.length:Int)+2) hby.1 (by omega)
   refine And.intro (Need.mk (by omega)) (And.intro (Need.mk (by omega)) (And.intro (Need.mk (by omega)) (And.intro (Need.mk (by omega)) (And.intro (Need.mk (by intro hh;cases hh.1)) ?_))))
   unfold madeS at hst
   simp only at hst
   generalize Int.tmod (List.getD bs k 0) ((p2.length:Int)+2)=r at hst tmk
   obtain ⟨ga,za,gra,ba,ca,i1,e1,i2,e2,HA,c1,c2⟩:=leaf_step k G GR l z b' c' (toks.getD n ((0:Int),((0:Int),((0:Int),())))) (by omega) H
   have leafc:(r<1∨(p2.length:Int)≤r)→n<toks.length→w'=(leafL l (toks.getD n ((0:Int),((0:Int),((0:Int),())))),n+1):=fun h1 h2=>by rw [hst,if_pos h1,if_pos h2]
   have skipc:(r<1∨(p2.length:Int)≤r)→¬ n<toks.length→w'=(l,n+1):=fun h1 h2=>by rw [hst,if_pos h1,if_neg h2]
   have HS:Ok 1000 (k+1) l z b':=⟨H.tr,H.sum,H.le,H.lim,by have:=H.len;omega⟩
   refine ⟨fun h2=>⟨fun h3=>?_,fun h3=>?_⟩,fun h2=>⟨fun h2'=>⟨fun h3=>?_,fun h3=>?_⟩,fun h2'=>?_⟩⟩
   ·(simp only [dq1,dq2,dq3,dq4] at h2);(simp only [dq1,dq2,dq3,dq4] at h3)
    rw [Int.toNat_natCast]
    have hw:=leafc (.inl h2) (by omega)
    refine And.intro (Need.mk (by omega)) ?_
    ((repeat apply Exists.intro);refine And.intro (Need.mk (c1)) ?_)
    refine And.intro (Need.mk (by omega)) ?_
    ((repeat apply Exists.intro);refine And.intro (Need.mk (c2)) ?_)
    refine And.intro (Need.mk (by omega)) (And.intro (Need.mk (by omega)) (And.intro (Need.mk tr0) (And.intro ⟨k+1,ga,gra,za,by omega,by omega,?_⟩ (Need.mk (by ((try dsimp only);omega))))))
    rw [hst2,hw]
    exact ⟨tr0,tr0,tr0,tr0,tr0,tr0,tr0,tr0,tr0,tr0,tr0,tr0,tr0,tr0,HA⟩
   ·(simp only [dq1,dq2,dq3,dq4] at h2);(simp only [dq1,dq2,dq3,dq4] at h3)
    have hw:=skipc (.inl h2) (by omega)
    refine And.intro (Need.mk (by omega)) (And.intro (Need.mk (by omega)) (And.intro (Need.mk tr0) (And.intro ⟨k+1,G,GR,z,by omega,by omega,?_⟩ (Need.mk (by ((try dsimp only);omega))))))
    rw [hst2,hw]
    exact ⟨tr0,tr0,tr0,tr0,tr0,tr0,tr0,tr0,tr0,tr0,tr0,tr0,tr0,tr0,HS⟩
   ·(simp only [dq1,dq2,dq3,dq4] at h2');(simp only [dq1,dq2,dq3,dq4] at h3)
    rw [Int.toNat_natCast]
    have hw:=leafc (.inr h2') (by omega)
    refine And.intro (Need.mk (by omega)) ?_
    ((repeat apply Exists.intro);refine And.intro (Need.mk (c1)) ?_)
    refine And.intro (Need.mk (by omega)) ?_
    ((repeat apply Exists.intro);refine And.intro (Need.mk (c2)) ?_)
    refine And.intro (Need.mk (by omega)) (And.intro (Need.mk (by omega)) (And.intro (Need.mk tr0) (And.intro ⟨k+1,ga,gra,za,by omega,by omega,?_⟩ (Need.mk (by ((try dsimp only);omega))))))
    rw [hst2,hw]
    exact ⟨tr0,tr0,tr0,tr0,tr0,tr0,tr0,tr0,tr0,tr0,tr0,tr0,tr0,tr0,HA⟩
   ·(simp only [dq1,dq2,dq3,dq4] at h2');(simp only [dq1,dq2,dq3,dq4] at h3)
    have hw:=skipc (.inr h2') (by omega)
    refine And.intro (Need.mk (by omega)) (And.intro (Need.mk (by omega)) (And.intro (Need.mk tr0) (And.intro ⟨k+1,G,GR,z,by omega,by omega,?_⟩ (Need.mk (by ((try dsimp only);omega))))))
    rw [hst2,hw]
    exact ⟨tr0,tr0,tr0,tr0,tr0,tr0,tr0,tr0,tr0,tr0,tr0,tr0,tr0,tr0,HS⟩
   ·(simp only [dq1,dq2,dq3,dq4] at h2);(simp only [dq1,dq2,dq3,dq4] at h2')
    rw [if_neg (by omega)] at hst
    have hrlen:=hrt _ (getD_mem' ((0:Int),(([]:List Int),((0:Int),()))) (l:=p2) (n:=r.toNat) (by omega))
    generalize hpr:List.getD p2 r.toNat ((0:Int),(([]:List Int),((0:Int),())))=pr at hst hrlen
    have hfl:=freeK_len l pr.2.1.length l.length [] (by simp)
    have hlm:(toRL l).length=l.length:=List.length_map ..
    simp only [Int.toNat_natCast]
    refine And.intro (Need.mk (by omega)) ?_
    refine ⟨fun ks j gr m gr' rl a b c g' y g m' cc a' b2 c2=>∃ q:Nat,j=(q:Int)-1∧q≤l.length∧ks.length≤pr.2.1.length∧freeK l pr.2.1.length q ks=freeK l pr.2.1.length l.length []∧gr=(GR:Int)∧m=((toRL l).length:Int)∧gr'=(GR:Int)∧rl=toRL l∧a=1000∧b=b'∧c=c'∧g'=(G:Int)∧y=l++z∧g=(G:Int)∧m'=(l.length:Int)∧cc=b'∧a'=1000∧b2=b'∧c2=c',
     fun _ j _ _ _ _ _ _ _ _ _ _ _ _ _ _ _=>(j+1).toNat,⟨tr0⟩,⟨l.length,by omega,by omega,by simp,tr0,tr0,tr0,tr0,tr0,tr0,tr0,tr0,tr0,tr0,tr0,tr0,tr0,tr0,tr0,tr0⟩,?_⟩
    rintro ks _ _ _ _ _ _ b3 c3 _ _ _ _ cc3 _ b4 c4 ⟨q,rfl,hq,hkl,hfk,rfl,rfl,rfl,rfl,rfl,e1,e2,rfl,rfl,rfl,rfl,e3,rfl,e4,e5⟩
    subst e1 e2 e3 e4 e5
    have fin:ks=freeK l pr.2.1.length l.length []→∃ g' z' gr' b' c' i e,Ok 1000 (k+1) w'.1 z' b'∧w'.2=n∧E 36 [.op (0,0) [],iv r,iv pr.1,lv ks] (hT G l z b4 1000 b4 c4) (.tup [iv i,iv e]) (hT g' w'.1 z' b' 1000 b' c')∧E 37 [.op (0,0) [],iv r,iv pr.1,lv ks] (hR GR (toRL l) 1000 b4 c4) (.tup [iv i,iv e]) (hR gr' (toRL w'.1) 1000 b' c'):=fun hks=>by
     obtain ⟨gb,zb,grb,bb,cb,i3,e3,HB,d1,d2⟩:=node_step k G GR l z b4 c4 r pr.1 ks (by omega) (by omega) H
     have hw1:w'.1=nodL l r pr.1 ks:=by rw [hst,hks]
     have hw2:w'.2=n:=by rw [hst]
     rw [hw1]
     exact ⟨gb,zb,grb,bb,cb,i3,e3,HB,hw2,d1,d2⟩
    refine ⟨fun h4=>?_,fun h4=>?_⟩
    ·(simp only [dq1,dq2,dq3,dq4] at h4)
     obtain ⟨q,rfl⟩:∃ u,q=u+1:=⟨q-1,by omega⟩
     have hqt:(((q+1:Nat):Int)-1).toNat=q:=by omega
     have hq1:((q+1:Nat):Int)-1=(q:Int):=by omega
     rw [hqt,hq1]
     rw [freeK_succ] at hfk
     refine And.intro (Need.mk (by omega)) ?_
     refine ⟨fun h5=>?_,fun h5=>?_⟩
     ·(simp only [dq1,dq2,dq3,dq4] at h5)
      rw [if_pos (by omega)] at hfk
      have hin:inR l (q:Int)=true:=by rw [inR_iff];omega
      have hbe:(List.getD (toRL l) (0+q) rn0).2.2.2.2.2.1=belN l (q:Int):=by
       rw [Nat.zero_add,toRL_get]
       have:=belN_at hin
       rwa [Int.toNat_natCast] at this
      have hlq:0+q<(toRL l).length:=by omega
      refine And.intro (Need.mk (by omega)) (And.intro (Need.mk tr0) (And.intro (Need.mk hlq) (And.intro (Need.mk tr0) (And.intro (Need.mk hlq) ?_))))
      refine ⟨fun h6=>?_,fun h6=>?_⟩
      ·have h6':belN l (q:Int)=false:=by rw [← hbe];exact (Bool.not_eq_true' _).mp h6
       rw [if_neg (by simp [h6'])] at hfk
       refine And.intro (Need.mk (by simp only [List.length_cons,List.length_nil,bigN];omega)) (And.intro (Need.mk (by omega)) (And.intro (Need.mk tr0) (And.intro ⟨q,by omega,by omega,by simp only [List.cons_append,List.nil_append,List.length_cons];omega,hfk,tr0,tr0,tr0,tr0,tr0,tr0,tr0,tr0,tr0,tr0,tr0,tr0,tr0,tr0,tr0⟩ (Need.mk (by ((try dsimp only);omega))))))
      ·have h6':belN l (q:Int)=true:=by rw [← hbe];exact (Bool.not_eq_false' _).mp h6
       rw [if_pos h6'] at hfk
       refine And.intro (Need.mk (by omega)) (And.intro (Need.mk tr0) (And.intro ⟨q,by omega,by omega,hkl,hfk,tr0,tr0,tr0,tr0,tr0,tr0,tr0,tr0,tr0,tr0,tr0,tr0,tr0,tr0,tr0⟩ (Need.mk (by ((try dsimp only);omega)))))
     ·(simp only [dq1,dq2,dq3,dq4] at h5)
      rw [if_neg (by omega)] at hfk
      obtain ⟨gb,zb,grb,bb,cb,i3,e3,HB,hw2,d1,d2⟩:=fin hfk
      refine And.intro (Need.mk (by omega)) ?_
      ((repeat apply Exists.intro);refine And.intro (Need.mk (d1)) ?_)
      refine And.intro (Need.mk (by omega)) ?_
      ((repeat apply Exists.intro);refine And.intro (Need.mk (d2)) ?_)
      refine And.intro (Need.mk (by omega)) (And.intro (Need.mk tr0) (And.intro ⟨k+1,gb,grb,zb,by omega,by omega,?_⟩ (Need.mk (by ((try dsimp only);omega)))))
      rw [hst2,hw2]
      exact ⟨tr0,tr0,tr0,tr0,tr0,tr0,tr0,tr0,tr0,tr0,tr0,tr0,tr0,tr0,HB⟩
    ·(simp only [dq1,dq2,dq3,dq4] at h4)
     obtain rfl:q=0:=by omega
     rw [freeK_zero] at hfk
     obtain ⟨gb,zb,grb,bb,cb,i3,e3,HB,hw2,d1,d2⟩:=fin hfk
     refine And.intro (Need.mk (by omega)) ?_
     ((repeat apply Exists.intro);refine And.intro (Need.mk (d1)) ?_)
     refine And.intro (Need.mk (by omega)) ?_
     ((repeat apply Exists.intro);refine And.intro (Need.mk (d2)) ?_)
     refine And.intro (Need.mk (by omega)) (And.intro (Need.mk tr0) (And.intro ⟨k+1,gb,grb,zb,by omega,by omega,?_⟩ (Need.mk (by ((try dsimp only);omega)))))
     rw [hst2,hw2]
     exact ⟨tr0,tr0,tr0,tr0,tr0,tr0,tr0,tr0,tr0,tr0,tr0,tr0,tr0,tr0,HB⟩
  ·(simp only [dq1,dq2,dq3,dq4] at h)
   have:k=bs.length:=by omega
   subst this
   rw [List.take_length] at H ⊢
   exact ⟨G,z,GR,b',c',⟨H.tr,H.sum,H.le,H.lim,by have:=H.len;omega⟩,tr0,rfl⟩
 obtain ⟨v,h',e,g,z,gr,b,c,H,rfl,rfl⟩:=key
 exact ⟨g,z,gr,b,c,H,e⟩
end Go.Am.Z.W
