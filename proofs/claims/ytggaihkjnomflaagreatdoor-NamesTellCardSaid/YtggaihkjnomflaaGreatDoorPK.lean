/-
  A part of the proof of a law: see the text that states it.
-/
import Derived.Test.YtggaihkjnomflaaGreatDoorPG
import Derived.Test.YtggaihkjnomflaaGreatDoorVd3
import Derived.Test.YtggaihkjnomflaaGreatDoorVcL
import Derived.Test.YtggaihkjnomflaaGreatDoorZI
set_option linter.all false
namespace Go.Am.N
open Go Go.Am.Pr Go.Am.N.L
set_option maxRecDepth 100000
theorem c2Z (l:List qT0) (s:List Int) (hl:l.length≤1000000):E 29 [.tv [] bPZ l,.tv [] .str s] [] (iv (bMZ l s)) []:=by
 refine arZ (vWZ l s _ ?_)
 refine ⟨fun i=>∃ n:Nat,i=n∧n≤l.length∧(l.take n).any (fun x=>decide (x=s))=false,fun i=>(l.length-i).toNat,⟨0,rfl,by omega,rfl⟩,?_⟩
 rintro i ⟨n,rfl,hn,ha⟩
 refine ⟨fun h=>?_,fun h=>?_⟩
 ·(simp only [dq1,dq2,dq3,dq4] at h)
  have hn':n<l.length:=by omega
  rw [Int.toNat_natCast]
  refine ⟨⟨by omega⟩,fun hb=>⟨tvI ?_,rfl⟩,fun hb=>⟨⟨by omega⟩,⟨n+1,rfl,by omega,?_⟩,⟨by ((try dsimp only);omega)⟩⟩⟩
  ·exact (byZ (d:=[]) hn' ha hb).symm
  ·rw [aaZ ([]:List Int) hn',cxZ,ha,hb];rfl
 ·(simp only [dq1,dq2,dq3,dq4] at h)
  rw [List.take_of_length_le (by omega)] at ha
  exact ⟨tvI (bFZ ha).symm,rfl⟩
theorem c3Z {l:List qT0} {n:List Int}:0≤bMZ l n↔n∈l:=by
 refine ⟨fun h=>?_,eMZ⟩
 obtain ⟨k,k1,_,k3⟩:=n8Z h
 rw [← k3];exact ahZ [] l k k1
theorem ooZ (g:Gr) (n:List Int) (hl:g.2.2.1.length≤1000000) (hn:∀ x∈g.2.2.1,x.2.1.length≤1000000):E 30 [.tv [] tGr g,sv n] [] (iv (kZZ g.2.2.1 n)) []:=by
 obtain ⟨tk,sk,lv,st,rl,⟨⟩⟩:=g
 dsimp only at hl hn ⊢
 refine arZ (wbZ tk sk lv st rl n _ ?_)
 refine ⟨fun z=>∃ k:Nat,z=k∧k≤lv.length∧(lv.take k).any (fun x:Lv=>decide (n∈x.2.1))=false,fun z=>((lv.length:Int)-z).toNat,⟨0,rfl,by omega,rfl⟩,?_⟩
 rintro z ⟨k,rfl,hk,hv⟩
 refine ⟨fun h=>?_,fun h=>?_⟩
 ·(simp only [dq1,dq2,dq3,dq4] at h)
  have hk':k<lv.length:=by omega
  rw [Int.toNat_natCast]
  refine ⟨⟨by omega⟩,_,⟨c2Z (lv.getD k lv0).2.1 n (hn _ (ahZ _ lv _ hk'))⟩,fun h2=>⟨⟨by omega⟩,tvI ?_,rfl⟩,fun h2=>⟨⟨by omega⟩,⟨k+1,by omega,by omega,?_⟩,⟨by ((try dsimp only);omega)⟩⟩⟩
  ·(simp only [dq1,dq2,dq3,dq4] at h2)
   unfold kZZ
   rw [byZ (d:=lv0) hk' hv (decide_eq_true (c3Z.1 h2))];omega
  ·(simp only [dq1,dq2,dq3,dq4] at h2)
   rw [aaZ lv0 hk',cxZ,hv,decide_eq_false fun q=>h2 (c3Z.2 q)];rfl
 ·(simp only [dq1,dq2,dq3,dq4] at h)
  rw [List.take_of_length_le (by omega)] at hv
  refine ⟨tvI ?_,rfl⟩
  unfold kZZ
  rw [bFZ hv];rfl
theorem iOZ {p:Pl} (h:PlB p) (n:List Int):E 20 [.tv [] tPl p,sv n] [] (iv (cXZ p n)) []:=by
 have h1:=h.t
 have h2:=h.v
 obtain ⟨a,b,c,d,e,f,⟨⟩⟩:=p
 dsimp only at h1 h2
 have e1:=c2Z a n (by omega)
 have e2:=c2Z b n (by omega)
 have b1:-1≤bMZ b n∧bMZ b n<b.length:=eFZ _ b
 refine arZ (vDZ a b c d e f n _ ⟨_,⟨e1⟩,fun q=>⟨tvI ?_,rfl⟩,fun q=>⟨_,⟨e2⟩,fun q2=>⟨⟨by omega⟩,tvI ?_,rfl⟩,fun q2=>⟨tvI ?_,rfl⟩⟩⟩)
 ·(simp only [dq1,dq2,dq3,dq4] at q);unfold cXZ;dsimp only;rw [if_pos q]
 ·(simp only [dq1,dq2,dq3,dq4] at q q2);unfold cXZ;dsimp only;rw [if_neg q,if_pos q2]
 ·(simp only [dq1,dq2,dq3,dq4] at q q2);unfold cXZ;dsimp only;rw [if_neg q,if_neg q2]
structure PlF (p:Pl):Prop where
 t:p.1.length≤1000000
 v:p.2.1.length≤1000000
 r:p.2.2.1.length≤1000000
 rl:∀ x∈p.2.2.1,x.2.1.length≤1000000
 l:p.2.2.2.1.length≤1000000
 a:p.2.2.2.2.1.length≤1000000
 c:p.2.2.2.2.2.1.length≤1000000
theorem rjZ (g:Gr) (hg:Few g) (hB:Bd g 1048576) (hY:ByG g):E 8 [.tv [] tGr g] [] (ofA (ofO g)) []:=by
  have R:=pkZ g hB hY
  have lev:=fun n=>ooZ g n (by have:=hg.lv;omega) hg.lvs
  obtain ⟨hb,hl⟩:=tnZ hg
  have hbt:=hb.t
  have hbv:=hb.v
  have f1:=hg.tk
  have f5:=hg.lv
  have f7:=hg.rl
  have f8:=hg.rls
  have SY:=fun (rs:List Pd) (D A:List Int) (F:List qT0) n=>iOZ (p:=((amZ g).1,((amZ g).2.1,(rs,(D,(A,(F,()))))))) ⟨hbt,hbv⟩ n
  have hSY:∀ (rs:List Pd) (D A:List Int) (F:List qT0) n,cXZ ((amZ g).1,((amZ g).2.1,(rs,(D,(A,(F,())))))) n=cXZ (amZ g) n:=fun _ _ _ _ _=>rfl
  simp only [hSY] at SY
  have hoo:ofO g=ofO g:=rfl
  conv at hoo=>rhs;unfold ofO koZ
  have hbr:∀ r,kyZ g.2.2.1 (amZ g) r=kyZ g.2.2.1 (amZ g) r:=fun r=>rfl
  conv at hbr=>intro r;rhs;unfold kyZ
  have hpl:dGZ g (amZ g)=dGZ g (amZ g):=rfl
  conv at hpl=>rhs;unfold dGZ jTZ
  have hpr:∀ r,j1Z g.2.2.1 (amZ g) r=(cXZ (amZ g) r.1,(r.2.1.map (cXZ (amZ g)),((if r.2.2.1≠[] then kZZ g.2.2.1 r.2.2.1 else inZ (amZ g) r.2.1),()))):=fun r=>rfl
  have hlast:=g5Z (amZ g)
  have hl0:inZ (amZ g) []=0:=rfl
  have htt:∀ x,czZ (amZ g) x=(decide (0≤x)&&decide (x<(amZ g).1.length)):=fun x=>rfl
  have hvl:=dMZ g.2.2.2.2.1
  have hac:fwZ (amZ g)=((amZ g).1.length:Int)+((amZ g).2.1.length:Int):=rfl
  have hd1:(amZ g).1=pCZ::g.1.map (·.1):=rfl
  have hd2:(amZ g).2.1=cOZ g.2.2.2.2.1:=rfl
  have hd3:(amZ g).2.2.2.1=(0:Int)::g.1.map (fun t=>kZZ g.2.2.1 t.1):=rfl
  have hd4:(amZ g).2.2.2.2.1=(0:Int)::g.2.2.1.map (·.1):=rfl
  have hd5:(amZ g).2.2.2.2.2.1=[]::g.2.2.2.2.1.map (·.2.2.2.1):=rfl
  have hS0:=fun n=>cXZ (amZ g) n
  rw [hoo]
  clear hoo hb hg hB hY hSY hS0
  generalize hB:kyZ g.2.2.1 (amZ g)=B at hbr ⊢
  generalize hF:j1Z g.2.2.1 (amZ g)=F at hpr hpl
  generalize dGZ g (amZ g)=PP' at hpl ⊢
  generalize hS:cXZ (amZ g)=S at SY hbr hpr hpl hlast
  generalize hV:inZ (amZ g)=V at hpr hlast hl0
  generalize hT:czZ (amZ g)=T at hlast htt
  generalize fwZ (amZ g)=A0 at hpl hac
  generalize clZ g=R0 at R ⊢
  clear hB hF hS hV hT
  generalize amZ g=p0 at *
  obtain ⟨pt,pv,pr,pd,pa,pf,⟨⟩⟩:=p0
  obtain ⟨tk,sk,lv,st,rl,⟨⟩⟩:=g
  dsimp only at f1 f5 f7 f8 hpl hbr hpr hlast htt hvl hac hd1 hd2 hd3 hd4 hd5 hbt hbv hl lev SY ⊢
  have hbn:1000000<awZ:=by decide
  refine arZ (vc8 tk sk lv st rl _ ⟨_,⟨R⟩,fun q=>?_,fun q=>?_⟩)
  · (simp only [dq1,dq2,dq3,dq4] at q);rw [if_pos q];exact ⟨rfl,rfl⟩
  (simp only [dq1,dq2,dq3,dq4] at q)
  rw [if_neg (by rw [q];decide)]
  refine ⟨fun z a b c d e f=>∃ k:Nat,z=k∧k≤rl.length∧a=[pCZ]∧b=cOZ (rl.take k)∧c=[]∧d=[0]∧e=[0]∧f=[]::(rl.take k).map (·.2.2.2.1),fun z _ _ _ _ _ _=>((rl.length:Int)-z).toNat,⟨0,rfl,by omega,rfl,rfl,rfl,rfl,rfl,rfl⟩,?_⟩
  rintro z a b c d e f ⟨k,rfl,hk,rfl,rfl,rfl,rfl,rfl,rfl⟩
  have hvk:=hvl k hk
  refine ⟨fun h=>?_,fun h=>?_⟩
  · (simp only [dq1,dq2,dq3,dq4] at h)
    have hk':k<rl.length:=by omega
    rw [Int.toNat_natCast]
    refine ⟨⟨by omega⟩,_,⟨c2Z _ _ (by omega)⟩,fun h2=>⟨⟨by omega⟩,⟨?_⟩,⟨by omega⟩,⟨?_⟩,⟨by omega⟩,⟨rfl⟩,⟨k+1,by omega,by omega,rfl,?_,rfl,rfl,rfl,?_⟩,⟨by ((try dsimp only);omega)⟩⟩,fun h2=>⟨⟨by omega⟩,⟨?_⟩,⟨by omega⟩,⟨rfl⟩,⟨k+1,by omega,by omega,rfl,?_,rfl,rfl,rfl,?_⟩,⟨by ((try dsimp only);omega)⟩⟩⟩
    · simp only [List.length_cons,List.length_nil];omega
    · simp only [List.length_cons,List.length_map,List.length_take,List.length_nil];omega
    · (simp only [dq1,dq2,dq3,dq4] at h2)
      have h2:bMZ (cOZ (rl.take k)) (rl.getD k rl0).1<0:=h2
      rw [aaZ rl0 hk',cEZ,if_neg fun q=>by have:=eMZ q;omega]
    · rw [aaZ rl0 hk',List.map_append];rfl
    · simp only [List.length_cons,List.length_map,List.length_take,List.length_nil];omega
    · (simp only [dq1,dq2,dq3,dq4] at h2)
      have h2:¬ bMZ (cOZ (rl.take k)) (rl.getD k rl0).1<0:=h2
      rw [aaZ rl0 hk',cEZ,if_pos (c3Z.1 (by omega))]
    · rw [aaZ rl0 hk',List.map_append];rfl
  (simp only [dq1,dq2,dq3,dq4] at h)
  rw [List.take_of_length_le (show rl.length≤k by omega)] at hvk ⊢
  rw [← hd2,← hd5]
  rw [← hd2] at hvk
  replace hvk:pv.length≤rl.length:=by omega
  clear h hk hvl k
  refine ⟨fun z a b c d e f=>∃ k:Nat,z=k∧k≤tk.length∧(tk.take k).any (fun t:Tk=>decide (t.1∈pv))=false∧a=pCZ::(tk.take k).map (·.1)∧b=pv∧c=[]∧d=(0:Int)::(tk.take k).map (fun t=>kZZ lv t.1)∧e=[0]∧f=pf,fun z _ _ _ _ _ _=>((tk.length:Int)-z).toNat,⟨0,rfl,by omega,rfl,rfl,rfl,rfl,rfl,rfl,rfl⟩,?_⟩
  rintro z a b c d e f ⟨k,rfl,hk,hany,rfl,rfl,rfl,rfl,rfl,rfl⟩
  refine ⟨fun h=>?_,fun h=>?_⟩
  · (simp only [dq1,dq2,dq3,dq4] at h)
    have hk':k<tk.length:=by omega
    rw [Int.toNat_natCast]
    refine ⟨⟨by omega⟩,_,⟨c2Z _ _ (by omega)⟩,fun h2=>⟨⟨by omega⟩,?_⟩,fun h2=>⟨⟨by omega⟩,⟨?_⟩,⟨by omega⟩,_,⟨lev _⟩,⟨?_⟩,⟨by omega⟩,⟨rfl⟩,⟨k+1,by omega,by omega,?_,?_,rfl,rfl,?_,rfl,rfl⟩,⟨by ((try dsimp only);omega)⟩⟩⟩
    · (simp only [dq1,dq2,dq3,dq4] at h2)
      rw [byZ (d:=tk0) hk' hany (decide_eq_true (c3Z.1 h2)),if_pos (by omega),Int.toNat_natCast]
      exact ⟨rfl,rfl⟩
    · simp only [List.length_cons,List.length_map,List.length_take,List.length_nil];omega
    · simp only [List.length_cons,List.length_map,List.length_take,List.length_nil];omega
    · (simp only [dq1,dq2,dq3,dq4] at h2)
      rw [aaZ tk0 hk',cxZ,hany,decide_eq_false fun q=>h2 (c3Z.2 q)];rfl
    · rw [aaZ tk0 hk',List.map_append];rfl
    · rw [aaZ tk0 hk',List.map_append];rfl
  (simp only [dq1,dq2,dq3,dq4] at h)
  rw [List.take_of_length_le (show tk.length≤k by omega)] at hany ⊢
  rw [bFZ hany,if_neg (by decide),← hd1,← hd3]
  clear h hk hany k
  refine ⟨fun z a1 b1 c1 d1 e1 f1=>∃ k:Nat,z=k∧k≤lv.length∧a1=pt∧b1=b∧c1=[]∧d1=pd∧e1=(0:Int)::(lv.take k).map (·.1)∧f1=f,fun z _ _ _ _ _ _=>((lv.length:Int)-z).toNat,⟨0,rfl,by omega,rfl,rfl,rfl,rfl,rfl,rfl⟩,?_⟩
  rintro z a b c d e f ⟨k,rfl,hk,rfl,rfl,rfl,rfl,rfl,rfl⟩
  refine ⟨fun h=>?_,fun h=>?_⟩
  · (simp only [dq1,dq2,dq3,dq4] at h)
    have hk':k<lv.length:=by omega
    rw [Int.toNat_natCast]
    refine ⟨⟨by omega⟩,⟨?_⟩,⟨by omega⟩,⟨rfl⟩,⟨k+1,by omega,by omega,rfl,rfl,rfl,rfl,?_,rfl⟩,⟨by ((try dsimp only);omega)⟩⟩
    · simp only [List.length_cons,List.length_map,List.length_take,List.length_nil];omega
    · rw [aaZ lv0 hk',List.map_append];rfl
  (simp only [dq1,dq2,dq3,dq4] at h)
  rw [List.take_of_length_le (show lv.length≤k by omega),← hd4]
  clear h hk k
  refine ⟨⟨by omega⟩,_,⟨SY _ _ _ _ _⟩,?_⟩
  rw [← hac]
  refine ⟨fun z a' b' c' d' e' f'=>∃ k:Nat,z=k∧k≤rl.length∧(rl.take k).findSome? B=none∧a'=a∧b'=b∧c'=(A0,([S st],((0:Int),())))::(rl.take k).map F∧d'=d∧e'=pa∧f'=f,fun z _ _ _ _ _ _=>((rl.length:Int)-z).toNat,⟨0,rfl,by omega,rfl,rfl,rfl,rfl,rfl,rfl,rfl⟩,?_⟩
  rintro z a' b' c' d' e' f' ⟨k,rfl,hk,hn,rfl,rfl,rfl,rfl,rfl,rfl⟩
  refine ⟨fun h=>?_,fun h=>?_⟩
  · (simp only [dq1,dq2,dq3,dq4] at h)
    have hk':k<rl.length:=by omega
    rw [Int.toNat_natCast]
    have h8:(rl.getD k rl0).2.1.length≤10000:=(f8 _ (ahZ rl0 rl k hk')).2.1
    have hb:=hbr (rl.getD k rl0)
    have hp:=hpr (rl.getD k rl0)
    have hit:=fun n (e:B (rl.getD k rl0)=some n)=>dHZ hk' hn e
    have nxt:=fun (e:B (rl.getD k rl0)=none)=>dgZ B (rl.take k) (rl.getD k rl0) hn e
    have tks:=aaZ rl0 hk'
    have hgx:rl.getD k rl0=rl.getD k ([],([],([],([],())))):=rfl
    rw [hgx] at *
    generalize rl.getD k ([],([],([],([],()))))=x at *
    obtain ⟨L,ns,prc,ac,⟨⟩⟩:=x
    dsimp only at h8 hb hp ⊢
    refine ⟨⟨by omega⟩,_,⟨SY _ _ _ _ _⟩,?_⟩
    refine ⟨fun z y l v x0 x1 x2 x3 a1 b1 c1 d1 e1 f1=>∃ j:Nat,z=j∧j≤ns.length∧(ns.take j).any (fun n=>decide (S n<0))=false∧y=S L∧l=(ns.take j).map S∧v=V (ns.take j)∧x0=L∧x1=ns∧x2=prc∧x3=ac∧a1=a'∧b1=b'∧c1=(A0,([S st],((0:Int),())))::(rl.take k).map F∧d1=d'∧e1=e'∧f1=f',fun z _ _ _ _ _ _ _ _ _ _ _ _ _=>((ns.length:Int)-z).toNat,⟨0,rfl,by omega,rfl,rfl,rfl,hl0.symm,rfl,rfl,rfl,rfl,rfl,rfl,rfl,rfl,rfl,rfl⟩,?_⟩
    rintro z y l v x0 x1 x2 x3 a1 b1 c1 d1 e1 f1 ⟨j,rfl,hj,hna,rfl,rfl,rfl,rfl,rfl,rfl,rfl,rfl,rfl,rfl,rfl,rfl,rfl⟩
    refine ⟨fun q1=>?_,fun q1=>?_⟩
    · (simp only [dq1,dq2,dq3,dq4] at q1)
      have hj':j<x1.length:=by omega
      rw [Int.toNat_natCast]
      have hls:=hlast (x1.take j) (x1.getD j [])
      have ht:=htt (S (x1.getD j []))
      refine ⟨⟨by omega⟩,_,⟨SY _ _ _ _ _⟩,fun q2=>⟨⟨by omega⟩,?_⟩,fun q2=>⟨⟨?_⟩,fun q3=>⟨⟨?_⟩,⟨by omega⟩,⟨rfl⟩,⟨j+1,by omega,by omega,?_,rfl,?_,?_,rfl,rfl,rfl,rfl,rfl,rfl,rfl,rfl,rfl,rfl⟩,⟨by ((try dsimp only);omega)⟩⟩,fun q3=>⟨⟨by omega⟩,⟨rfl⟩,⟨j+1,by omega,by omega,?_,rfl,?_,?_,rfl,rfl,rfl,rfl,rfl,rfl,rfl,rfl,rfl,rfl⟩,⟨by ((try dsimp only);omega)⟩⟩⟩⟩
      · rw [byZ (d:=[]) hj' hna q2,if_pos (by omega),Int.toNat_natCast] at hb
        rw [hit _ hb]
        exact ⟨rfl,rfl⟩
      · simp only [List.length_cons,List.length_map,List.length_take,List.length_nil];omega
      · (simp only [dq1,dq2,dq3,dq4] at q2 q3);omega
      · rw [aaZ ([]:List Int) hj',cxZ,hna];exact q2
      · rw [aaZ ([]:List Int) hj',List.map_append];rfl
      · (simp only [dq1,dq2,dq3,dq4] at q2 q3)
        rw [aaZ ([]:List Int) hj',hls,if_pos (by rw [ht,decide_eq_true (by omega),decide_eq_true q3];rfl)]
      · rw [aaZ ([]:List Int) hj',cxZ,hna];exact q2
      · rw [aaZ ([]:List Int) hj',List.map_append];rfl
      · (simp only [dq1,dq2,dq3,dq4] at q2 q3)
        rw [aaZ ([]:List Int) hj',hls,if_neg (by rw [ht,decide_eq_false q3,Bool.and_false];decide)]
    · (simp only [dq1,dq2,dq3,dq4] at q1)
      rw [List.take_of_length_le (show x1.length≤j by omega)] at hna ⊢
      rw [bFZ hna,if_neg (by decide)] at hb
      refine ⟨fun q2=>⟨_,⟨lev _⟩,fun q3=>?_,fun q3=>⟨⟨?_⟩,⟨by omega⟩,⟨rfl⟩,⟨k+1,by omega,by omega,?_,rfl,rfl,?_,rfl,rfl,rfl⟩,⟨by ((try dsimp only);omega)⟩⟩⟩,fun q2=>⟨⟨?_⟩,⟨by omega⟩,⟨rfl⟩,⟨k+1,by omega,by omega,?_,rfl,rfl,?_,rfl,rfl,rfl⟩,⟨by ((try dsimp only);omega)⟩⟩⟩
      · (simp only [dq1,dq2,dq3,dq4] at q2 q3)
        rw [if_pos ⟨q2,q3⟩] at hb
        rw [hit _ hb]
        exact ⟨rfl,rfl⟩
      · simp only [List.length_cons,List.length_map,List.length_take,List.length_nil];omega
      · (simp only [dq1,dq2,dq3,dq4] at q2 q3)
        rw [if_neg fun q=>q3 q.2] at hb
        rw [tks];exact nxt hb
      · (simp only [dq1,dq2,dq3,dq4] at q2 q3)
        rw [tks,List.map_append,List.map_singleton,hp,if_pos q2];rfl
      · simp only [List.length_cons,List.length_map,List.length_take,List.length_nil];omega
      · (simp only [dq1,dq2,dq3,dq4] at q2)
        rw [if_neg fun q=>q.1 q2] at hb
        rw [tks];exact nxt hb
      · (simp only [dq1,dq2,dq3,dq4] at q2)
        rw [tks,List.map_append,List.map_singleton,hp,if_neg (not_not_intro q2)];rfl
  (simp only [dq1,dq2,dq3,dq4] at h)
  rw [List.take_of_length_le (show rl.length≤k by omega)] at hn ⊢
  rw [hn]
  refine ⟨_,⟨c2Z _ _ (by omega)⟩,fun q2=>?_,fun q2=>?_⟩
  · (simp only [dq1,dq2,dq3,dq4] at q2)
    rw [decide_eq_false fun q=>by have:=eMZ q;omega,if_pos (by rfl)]
    exact ⟨rfl,rfl⟩
  · (simp only [dq1,dq2,dq3,dq4] at q2)
    rw [decide_eq_true (c3Z.1 (by omega)),hpl]
    exact ⟨rfl,rfl⟩
end Go.Am.N
