/-
  A part of the proof of a law: see the text that states it.
-/
import Derived.Test.YtggaihkjnomflaaGreatDoorPC
import Derived.Test.YtggaihkjnomflaaGreatDoorVcX
import Derived.Test.YtggaihkjnomflaaGreatDoorF
set_option linter.all false
namespace Go.Am.N
open Go Go.Am.Pr Go.Am.N.L
set_option maxRecDepth 100000
def kyZ (lv:List Lv) (p:Pl) (r:Rl):Option qT0 :=
 if 0≤b5Z (fun n=>decide (cXZ p n<0)) r.2.1 then some (r.2.1.getD (b5Z (fun n=>decide (cXZ p n<0)) r.2.1).toNat [])
 else if r.2.2.1≠[]∧kZZ lv r.2.2.1=0 then some r.2.2.1 else none
def koZ (g:Gr) (p:Pl):List Int×Bool:=match g.2.2.2.2.1.findSome? (kyZ g.2.2.1 p) with
 | some n=>(n,true)
 | none=>(g.2.2.2.1,!decide (g.2.2.2.1∈p.2.1))
theorem dHZ {α β:Type} {f:α→Option β} {l:List α} {d:α} {k:Nat} {b:β} (hk:k<l.length) (h1:(l.take k).findSome? f=none) (h2:f (l.getD k d)=some b):l.findSome? f=some b:=by
 have e:l=l.take k++(l.getD k d::l.drop (k+1)):=by
  rw [← aHZ d hk,List.take_append_drop]
 rw [e,List.findSome?_append,h1,List.findSome?_cons,h2];rfl
theorem dgZ {α β:Type} (f:α→Option β) (l:List α) (x:α) (h1:l.findSome? f=none) (h2:f x=none):(l++[x]).findSome? f=none:=by
 rw [List.findSome?_append,h1,List.findSome?_cons,h2];rfl
theorem rWZ {p:Pl} (h:PlB p) (l:List qT0) (hl:l.length≤1000000):E 50 [.tv [] bPZ l,.fn 49 [] [.sp tPl p]] [] (iv (b5Z (fun n=>decide (cXZ p n<0)) l)) []:=by
 have sy:=fun n=>f3Z h n
 have e1:E 70 [.tv [] bPZ l,.fn 49 [] [.sp tPl p]] [] (iv (b5Z (fun n=>decide (cXZ p n<0)) l)) []:=by
  generalize hS:cXZ p=S at sy ⊢
  obtain ⟨a,b,c,d,e,f,⟨⟩⟩:=p
  refine arZ (skZ l a b c d e f _ ?_)
  refine ⟨fun z=>∃ k:Nat,z=k∧k≤l.length∧(l.take k).any (fun n=>decide (S n<0))=false,fun z=>((l.length:Int)-z).toNat,⟨0,rfl,by omega,rfl⟩,?_⟩
  rintro z ⟨k,rfl,hk,hv⟩
  refine ⟨fun h=>?_,fun h=>?_⟩
  ·(simp only [dq1,dq2,dq3,dq4] at h)
   have hk':k<l.length:=by omega
   rw [Int.toNat_natCast]
   refine ⟨⟨by omega⟩,_,⟨arZ (vRZ (l.getD k []) a b c d e f _ ⟨_,⟨sy _⟩,rfl,rfl⟩)⟩,fun h2=>⟨tvI ?_,rfl⟩,fun h2=>⟨⟨by omega⟩,⟨k+1,by omega,by omega,?_⟩,⟨by ((try dsimp only);omega)⟩⟩⟩
   ·exact (byZ (d:=[]) hk' hv h2).symm
   ·rw [aaZ ([]:List Int) hk',cxZ,hv];exact h2
  ·(simp only [dq1,dq2,dq3,dq4] at h)
   rw [List.take_of_length_le (by omega)] at hv
   exact ⟨tvI (bFZ hv).symm,rfl⟩
 obtain ⟨a,b,c,d,e,f,⟨⟩⟩:=p
 exact arZ (vcZ l a b c d e f _ ⟨_,⟨e1⟩,rfl,rfl⟩)
theorem s5Z (g:Gr) (hg:Few g) {p:Pl} (h:PlB p):E 26 [.tv [] tGr g,.tv [] tPl p] [] (.tup [sv (koZ g p).1,bv (koZ g p).2]) []:=by
 have lev:=fun n=>icZ g n (by have:=hg.lv;omega) hg.lvs
 have non:=fun l hl=>rWZ h l hl
 have f7:=hg.rl
 have f8:=hg.rls
 have hv:=h.v
 have hu:koZ g p=koZ g p:=rfl
 conv at hu=>rhs;unfold koZ
 have hbr:∀ r,kyZ g.2.2.1 p r=kyZ g.2.2.1 p r:=fun r=>rfl
 conv at hbr=>intro r;rhs;unfold kyZ
 generalize hS:cXZ p=S at non hbr
 generalize hB:kyZ g.2.2.1 p=B at hu hbr
 rw [hu]
 clear hu hg h
 obtain ⟨tk,sk,lv,st,rl,⟨⟩⟩:=g
 obtain ⟨a,b,c,d,e,f,⟨⟩⟩:=p
 dsimp only at f7 f8 hv hbr lev ⊢
 refine arZ (uSZ tk sk lv st rl a b c d e f _ ?_)
 refine ⟨fun z=>∃ k:Nat,z=k∧k≤rl.length∧(rl.take k).findSome? B=none,fun z=>((rl.length:Int)-z).toNat,⟨0,rfl,by omega,rfl⟩,?_⟩
 rintro z ⟨k,rfl,hk,hn⟩
 refine ⟨fun q=>?_,fun q=>?_⟩
 ·(simp only [dq1,dq2,dq3,dq4] at q)
  have hk':k<rl.length:=by omega
  rw [Int.toNat_natCast]
  have h8:=f8 _ (ahZ rl0 rl k hk')
  have hb:=hbr (rl.getD k rl0)
  have bd:=eFZ (fun n=>decide (S n<0)) (rl.getD k rl0).2.1
  refine ⟨⟨by omega⟩,_,⟨non (rl.getD k rl0).2.1 (by omega)⟩,fun q1=>⟨⟨?_⟩,?_⟩,fun q1=>⟨fun q2=>⟨_,⟨lev _⟩,fun q3=>?_,fun q3=>⟨⟨by omega⟩,⟨k+1,by omega,by omega,?_⟩,⟨by ((try dsimp only);omega)⟩⟩⟩,fun q2=>⟨⟨by omega⟩,⟨k+1,by omega,by omega,?_⟩,⟨by ((try dsimp only);omega)⟩⟩⟩⟩
  ·(simp only [dq1,dq2,dq3,dq4] at q1);exact ⟨q1,bd.2⟩
  ·(simp only [dq1,dq2,dq3,dq4] at q1)
   rw [if_pos q1] at hb
   rw [dHZ hk' hn hb]
   exact ⟨rfl,rfl⟩
  ·(simp only [dq1,dq2,dq3,dq4] at q1 q2 q3)
   rw [if_neg q1,if_pos ⟨q2,q3⟩] at hb
   rw [dHZ hk' hn hb]
   exact ⟨rfl,rfl⟩
  ·(simp only [dq1,dq2,dq3,dq4] at q1 q2 q3)
   rw [if_neg q1,if_neg fun q=>q3 q.2] at hb
   rw [aaZ rl0 hk'];exact dgZ _ _ _ hn hb
  ·(simp only [dq1,dq2,dq3,dq4] at q1 q2)
   rw [if_neg q1,if_neg fun q=>q.1 q2] at hb
   rw [aaZ rl0 hk'];exact dgZ _ _ _ hn hb
 ·(simp only [dq1,dq2,dq3,dq4] at q)
  rw [List.take_of_length_le (by omega)] at hn
  rw [hn]
  exact ⟨_,⟨bpZ _ _ (by omega)⟩,rfl,rfl⟩
def inZ (p:Pl) (l:List qT0):Int:=l.foldl (fun v n=>if czZ p (cXZ p n)=true then p.2.2.2.1.getD (cXZ p n).toNat 0 else v) 0
theorem g5Z (p:Pl) (l:List qT0) (n:List Int):inZ p (l++[n])=if czZ p (cXZ p n)=true then p.2.2.2.1.getD (cXZ p n).toNat 0 else inZ p l:=by
 unfold inZ;rw [List.foldl_append];rfl
def j1Z (lv:List Lv) (p:Pl) (r:Rl):Pd:=(cXZ p r.1,(r.2.1.map (cXZ p),((if r.2.2.1≠[] then kZZ lv r.2.2.1 else inZ p r.2.1),())))
theorem syZ (g:Gr) (hg:Few g) {p:Pl} (h:PlB p) (hl:p.2.2.2.1.length=p.1.length) (r:Rl) (hr:r.2.1.length≤1000000):E 27 [.tv [] tGr g,.tv [] tPl p,.tv [] tRl r] [] (.tv [] tPd (j1Z g.2.2.1 p r)) []:=by
 have lev:=fun n=>icZ g n (by have:=hg.lv;omega) hg.lvs
 have sy:=fun n=>f3Z h n
 have te:=fun x=>gCZ h x
 have hlast:=g5Z p
 have hl0:inZ p []=0:=rfl
 have htt:∀ x,czZ p x=true→0≤x∧x<p.1.length:=fun x q=>by
  unfold czZ at q;rw [Bool.and_eq_true,decide_eq_true_eq,decide_eq_true_eq] at q;exact q
 unfold j1Z
 generalize hS:cXZ p=S at sy hlast ⊢
 generalize hV:inZ p=V at hlast hl0 ⊢
 generalize hT:czZ p=T at te hlast htt
 clear hg h
 obtain ⟨tk,sk,lv,st,rl,⟨⟩⟩:=g
 obtain ⟨a,b,c,d,e,f,⟨⟩⟩:=p
 obtain ⟨L,ns,pr,ac,⟨⟩⟩:=r
 dsimp only at hl hr hlast htt lev ⊢
 refine arZ (uTZ tk sk lv st rl a b c d e f L ns pr ac _ ⟨_,⟨sy L⟩,?_⟩)
 refine ⟨fun z x l v=>∃ k:Nat,z=k∧k≤ns.length∧x=S L∧l=(ns.take k).map S∧v=V (ns.take k),fun z _ _ _=>((ns.length:Int)-z).toNat,⟨0,rfl,by omega,rfl,rfl,by rw [List.take_zero];exact hl0.symm⟩,?_⟩
 rintro z x l v ⟨k,rfl,hk,rfl,rfl,rfl⟩
 have hbn:1000000<awZ:=by decide
 refine ⟨fun q=>?_,fun q=>?_⟩
 ·(simp only [dq1,dq2,dq3,dq4] at q)
  have hk':k<ns.length:=by omega
  rw [Int.toNat_natCast]
  have hls:=hlast (ns.take k) (ns.getD k [])
  refine ⟨⟨by omega⟩,_,⟨sy _⟩,⟨?_⟩,_,⟨te _⟩,fun q2=>⟨⟨?_⟩,⟨by omega⟩,⟨rfl⟩,⟨k+1,by omega,by omega,rfl,?_,?_⟩,⟨by ((try dsimp only);omega)⟩⟩,fun q2=>⟨⟨by omega⟩,⟨rfl⟩,⟨k+1,by omega,by omega,rfl,?_,?_⟩,⟨by ((try dsimp only);omega)⟩⟩⟩
  ·simp only [List.length_cons,List.length_map,List.length_take,List.length_nil];omega
  ·have:=htt _ q2;omega
  ·rw [aaZ ([]:List Int) hk',List.map_append];rfl
  ·rw [aaZ ([]:List Int) hk',hls,if_pos q2]
  ·rw [aaZ ([]:List Int) hk',List.map_append];rfl
  ·rw [aaZ ([]:List Int) hk',hls,if_neg (by rw [q2];decide)]
 ·(simp only [dq1,dq2,dq3,dq4] at q)
  have e0:ns.take k=ns:=List.take_of_length_le (by omega)
  rw [e0]
  refine ⟨fun q2=>⟨_,⟨lev pr⟩,?_⟩,fun q2=>?_⟩
  ·(simp only [dq1,dq2,dq3,dq4] at q2);rw [if_pos q2];exact ⟨rfl,rfl⟩
  ·(simp only [dq1,dq2,dq3,dq4] at q2);rw [if_neg (not_not_intro q2)];exact ⟨rfl,rfl⟩
end Go.Am.N
namespace Go.Am.N
open Go Go.Am.Pr Go.Am.N.L
set_option maxRecDepth 100000
abbrev hP (p:Pl):adZ:=[((0,0),⟨⟨tPl,p⟩,[]⟩)]
theorem tbZ (l:List Tk) (hl:l.length≤1000000) (p:Pl) (hp:p.2.1.length≤1000000):E 23 [.tv [] (.slice tTk) l,.fn 24 [] [.op (0,0) []]] (hP p) (iv (b5Z (fun t:Tk=>decide (t.1∈p.2.1)) l)) (hP p):=by
 obtain ⟨a,b,c,d,e,f,⟨⟩⟩:=p
 dsimp only at hp ⊢
 have e1:E 48 [.tv [] (.slice tTk) l,.fn 24 [] [.op (0,0) []]] (hP (a,(b,(c,(d,(e,(f,()))))))) (iv (b5Z (fun t:Tk=>decide (t.1∈b)) l)) (hP (a,(b,(c,(d,(e,(f,()))))))):=by
  refine arZ (vPZ l a b c d e f _ ?_)
  refine ⟨fun z a' b' c' d' e' f'=>∃ k:Nat,z=k∧k≤l.length∧(l.take k).any (fun t:Tk=>decide (t.1∈b))=false∧a'=a∧b'=b∧c'=c∧d'=d∧e'=e∧f'=f,fun z _ _ _ _ _ _=>((l.length:Int)-z).toNat,⟨0,rfl,by omega,rfl,rfl,rfl,rfl,rfl,rfl,rfl⟩,?_⟩
  rintro z a' b' c' d' e' f' ⟨k,rfl,hk,hv,rfl,rfl,rfl,rfl,rfl,rfl⟩
  refine ⟨fun h=>?_,fun h=>?_⟩
  ·(simp only [dq1,dq2,dq3,dq4] at h)
   have hk':k<l.length:=by omega
   rw [Int.toNat_natCast]
   refine ⟨⟨by omega⟩,_,a',b',c',d',e',f',⟨arZ (weZ (l.getD k tk0).1 (l.getD k tk0).2.1.1 (l.getD k tk0).2.1.2.1 (l.getD k tk0).2.1.2.2.1 a' b' c' d' e' f' _ ⟨_,⟨bpZ b' _ hp⟩,rfl,rfl⟩)⟩,fun h2=>⟨tvI ?_,rfl⟩,fun h2=>⟨⟨by omega⟩,⟨k+1,by omega,by omega,?_,rfl,rfl,rfl,rfl,rfl,rfl⟩,⟨by ((try dsimp only);omega)⟩⟩⟩
   ·exact (byZ (d:=tk0) hk' hv h2).symm
   ·rw [aaZ tk0 hk',cxZ,hv];exact h2
  ·(simp only [dq1,dq2,dq3,dq4] at h)
   rw [List.take_of_length_le (by omega)] at hv
   exact ⟨tvI (bFZ hv).symm,rfl⟩
 exact arZ (u7Z l a b c d e f _ ⟨_,a,b,c,d,e,f,⟨e1⟩,rfl,rfl⟩)
def jTZ (g:Gr) (p:Pl):List Pd:=(fwZ p,([cXZ p g.2.2.2.1],((0:Int),())))::g.2.2.2.2.1.map (j1Z g.2.2.1 p)
def dGZ (g:Gr) (p:Pl):Pl:=(p.1,(p.2.1,(jTZ g p,(p.2.2.2.1,(p.2.2.2.2.1,(p.2.2.2.2.2.1,()))))))
def ofO (g:Gr):Pl×Int×List Int :=
 if clZ g=false then (pl0,(1,[]))
 else if 0≤b5Z (fun t:Tk=>decide (t.1∈(amZ g).2.1)) g.1 then (pl0,(15,(g.1.getD (b5Z (fun t:Tk=>decide (t.1∈(amZ g).2.1)) g.1).toNat tk0).1))
 else if (koZ g (amZ g)).2=true then (pl0,(16,(koZ g (amZ g)).1))
 else (dGZ g (amZ g),(0,[]))
abbrev ofA (o:Pl×Int×List Int):AV:=.tup [.tv [] tPl o.1,iv o.2.1,sv o.2.2]
theorem tnZ {g:Gr} (h:Few g):PlB (amZ g)∧(amZ g).2.2.2.1.length=(amZ g).1.length:=by
 have h1:=h.tk
 have h2:=h.rl
 have h3:=dMZ g.2.2.2.2.1 g.2.2.2.2.1.length (Nat.le_refl _)
 rw [List.take_of_length_le (Nat.le_refl _)] at h3
 refine ⟨⟨?_,?_⟩,?_⟩
 ·unfold amZ;simp only [List.length_cons,List.length_map];omega
 ·unfold amZ;dsimp only;omega
 ·unfold amZ;simp only [List.length_cons,List.length_map]
theorem tNZ (g:Gr) (hg:Few g):E 7 [.tv [] tGr g] [] (ofA (ofO g)) []:=by
 have R:=pXZ g hg
 have D:=r0Z g hg
 obtain ⟨hb,hl⟩:=tnZ hg
 have f1:=hg.tk
 have f7:=hg.rl
 have f8:=hg.rls
 unfold ofO
 generalize hp:amZ g=p at D hb hl ⊢
 have hv:=hb.v
 have T:=tbZ g.1 (by omega) p (by omega)
 have U:=s5Z g hg hb
 have A:=h1Z hb
 have S:=f3Z hb g.2.2.2.1
 have bd:=eFZ (fun t:Tk=>decide (t.1∈p.2.1)) g.1
 have P:=fun (rs:List Pd) (r:Rl) (hr:r.2.1.length≤1000000)=>syZ g hg (p:=(p.1,(p.2.1,(rs,(p.2.2.2.1,(p.2.2.2.2.1,(p.2.2.2.2.2.1,()))))))) ⟨hb.t,hb.v⟩ hl r hr
 have hP:∀ (rs:List Pd) (r:Rl),j1Z g.2.2.1 (p.1,(p.2.1,(rs,(p.2.2.2.1,(p.2.2.2.2.1,(p.2.2.2.2.2.1,())))))) r=j1Z g.2.2.1 p r:=fun rs r=>rfl
 simp only [hP] at P
 have hpl:dGZ g p=dGZ g p:=rfl
 conv at hpl=>rhs;unfold dGZ jTZ
 generalize hF:j1Z g.2.2.1 p=F at P hpl
 clear hg hP hp
 generalize dGZ g p=PP' at hpl ⊢
 generalize cXZ p g.2.2.2.1=S0 at S hpl
 generalize fwZ p=A0 at A hpl
 generalize koZ g p=U0 at U ⊢
 generalize hR:clZ g=R0 at R ⊢
 generalize hi:b5Z (fun t:Tk=>decide (t.1∈p.2.1)) g.1=i at T bd ⊢
 clear hi hR
 obtain ⟨tk,sk,lv,st,rl,⟨⟩⟩:=g
 obtain ⟨a,b,c,d,e,f,⟨⟩⟩:=p
 dsimp only at f1 f7 f8 bd hpl P ⊢
 subst hpl
 refine arZ (vc7 tk sk lv st rl _ ⟨_,⟨R⟩,fun q=>?_,fun q=>⟨a,b,c,d,e,f,⟨D⟩,_,a,b,c,d,e,f,⟨T⟩,fun q1=>⟨⟨?_⟩,?_⟩,fun q1=>⟨_,_,⟨U⟩,fun q2=>?_,fun q2=>⟨_,⟨A⟩,_,⟨S⟩,?_⟩⟩⟩⟩)
 ·(simp only [dq1,dq2,dq3,dq4] at q);rw [if_pos q];exact ⟨rfl,rfl⟩
 ·(simp only [dq1,dq2,dq3,dq4] at q1);exact ⟨q1,bd.2⟩
 ·(simp only [dq1,dq2,dq3,dq4] at q q1);rw [if_neg (by rw [q];decide),if_pos q1];exact ⟨rfl,rfl⟩
 ·(simp only [dq1,dq2,dq3,dq4] at q q1);rw [if_neg (by rw [q];decide),if_neg q1,if_pos q2];exact ⟨rfl,rfl⟩
 ·(simp only [dq1,dq2,dq3,dq4] at q q1)
  rw [if_neg (by rw [q];decide),if_neg q1,if_neg (by rw [q2];decide)]
  have hbn:1000000<awZ:=by decide
  refine ⟨fun z a' b' c' d' e' f'=>∃ k:Nat,z=k∧k≤rl.length∧a'=a∧b'=b∧c'=(A0,([S0],((0:Int),())))::(rl.take k).map F∧d'=d∧e'=e∧f'=f,fun z _ _ _ _ _ _=>((rl.length:Int)-z).toNat,⟨0,rfl,by omega,rfl,rfl,rfl,rfl,rfl,rfl⟩,?_⟩
  rintro z a' b' c' d' e' f' ⟨k,rfl,hk,rfl,rfl,rfl,rfl,rfl,rfl⟩
  refine ⟨fun q3=>?_,fun q3=>?_⟩
  ·(simp only [dq1,dq2,dq3,dq4] at q3)
   have hk':k<rl.length:=by omega
   rw [Int.toNat_natCast]
   have h8:=f8 _ (ahZ rl0 rl k hk')
   refine ⟨⟨by omega⟩,(F (rl.getD k rl0)).1,(F (rl.getD k rl0)).2.1,(F (rl.getD k rl0)).2.2.1,⟨P _ (rl.getD k rl0) (by omega)⟩,⟨?_⟩,⟨by omega⟩,⟨rfl⟩,⟨k+1,by omega,by omega,rfl,rfl,?_,rfl,rfl,rfl⟩,⟨by ((try dsimp only);omega)⟩⟩
   ·simp only [List.length_cons,List.length_map,List.length_take,List.length_nil];omega
   ·rw [aaZ rl0 hk',List.map_append];rfl
  ·(simp only [dq1,dq2,dq3,dq4] at q3)
   have e0:rl.take k=rl:=List.take_of_length_le (by omega)
   rw [e0]
   exact ⟨rfl,rfl⟩
end Go.Am.N
namespace Go.Am.N
open Go Go.Am.Pr Go.Am.N.L
set_option maxRecDepth 100000
def s8:List Int:=[37,116,111,107,101,110,32,78,32,34,110,34,32,37,116,111,107,101,110,32,80,32,34,112,34,32,37,108,101,102,116,32,80,32,37,37,32,69,32,58,32,69,32,80,32,69,32,124,32,78,32,59]
abbrev g8:Gr:=([([78],(([110],([],(false,()))),())),([80],(([112],([],(false,()))),()))],([],([(1,([[80]],()))],([69],([([69],([[69],[80],[69]],([],([],())))),([69],([[78]],([],([],()))))],())))))
abbrev g9:Gr:=([],([],([],([69],([([69],([[70]],([],([],()))))],())))))
abbrev p8:Pl:=([pCZ,[78],[80]],([[69]],([(4,([3],(0,()))),(3,([3,2,3],(1,()))),(3,([1],(0,())))],([0,0,1],([0,1],([[],[],[]],()))))))
theorem vHZ:Few g8:=⟨by decide,by decide,by decide,by decide,by decide,by decide,by decide,by decide,by decide⟩
theorem vrZ:Few g9:=⟨by decide,by decide,by decide,by decide,by decide,by decide,by decide,by decide,by decide⟩
theorem r8:E 12 [.tv [] .str s8] [] (f6Z (g8,dg0)) []:=iuZ s8 _ (by decide) (by decide) (by kernel_rfl)
theorem o8:E 7 [.tv [] tGr g8] [] (ofA (p8,(0,[]))) []:=by
 have h:ofO g8=(p8,(0,[])):=by kernel_rfl
 rw [← h];exact tNZ g8 vHZ
theorem o9:E 7 [.tv [] tGr g9] [] (ofA (pl0,(16,[70]))) []:=by
 have h:ofO g9=(pl0,(16,[70])):=by kernel_rfl
 rw [← h];exact tNZ g9 vrZ
theorem b8:PlS p8:=⟨⟨by decide,by decide⟩,by decide,by decide,by decide,by decide⟩
theorem h8:E 16 [.tv [] tPl p8,iv 1] [] (sv [69,32,58,32,69,32,80,32,69]) []:=by
 have h:fBZ p8 1=[69,32,58,32,69,32,80,32,69]:=by kernel_rfl
 rw [← h];exact iaZ b8 1
theorem y8:E 19 [.tv [] tPl p8,sv [69]] [] (iv 3) []:=by
 have h:cXZ p8 [69]=3:=by kernel_rfl
 rw [← h];exact f3Z b8.toPlB [69]
theorem c8:E 18 [.tv [] tPl p8] [] (iv 4) []:=by
 have h:fwZ p8=4:=by kernel_rfl
 rw [← h];exact h1Z b8.toPlB
theorem jjZ:E 5 [] [] (bv true) []:=by
 refine arZ (vc5 _ ⟨_,_,_,_,_,_,_,_,⟨r8⟩,_,_,_,_,_,_,_,_,⟨o8⟩,_,_,_,_,_,_,_,_,⟨o9⟩,fun h=>absurd h (by decide),fun _=>⟨fun _=>⟨fun _=>⟨⟨by decide⟩,fun _=>⟨⟨by decide⟩,fun _=>⟨_,⟨y8⟩,fun _=>⟨_,⟨c8⟩,fun _=>⟨_,⟨h8⟩,fun _=>⟨fun _=>⟨by kernel_rfl,rfl⟩,fun h=>absurd h (by decide)⟩,fun h=>absurd h (by decide)⟩,fun h=>absurd h (by decide)⟩,fun h=>absurd h (by decide)⟩,fun h=>absurd h (by decide)⟩,fun h=>absurd h (by decide)⟩,fun h=>absurd h (by decide)⟩,fun h=>absurd h (by decide)⟩⟩)
end Go.Am.N
namespace Go.Am.N
open Go Go.Am.Pr Go.Am.N.L
set_option maxRecDepth 100000
theorem aPZ {r:Rl} (h:hnZ r=true):a4Z r.1=true∧r.2.1.length≤8∧r.2.1.all a4Z=true∧(r.2.2.1=[]∨a4Z r.2.2.1=true)∧kpZ r.2.2.2.1=true:=by
 simpa only [hnZ,Bool.and_eq_true,Bool.or_eq_true,decide_eq_true_eq] using h
theorem c7Z (g:Gr):clZ g=true↔((∀ t∈g.1,g2Z t.2.1=true)∧g.1.length≤20∧crZ (g.1.map (·.1))=true)∧((∀ x∈g.2.2.1,jXZ x=true)∧g.2.2.1.length≤10∧crZ (g.2.2.1.flatMap (·.2.1))=true)∧g.2.1.length≤4∧(∀ p∈g.2.1,g2Z p=true)∧a4Z g.2.2.2.1=true∧0<g.2.2.2.2.1.length∧g.2.2.2.2.1.length≤40∧∀ r∈g.2.2.2.2.1,hnZ r=true:=by
 unfold clZ sXZ lvO
 simp only [Bool.and_eq_true,decide_eq_true_eq,List.all_eq_true]
theorem bdZ {n:List Int} (h:a4Z n=true):n.length≤32:=by
 simp only [a4Z,Bool.and_eq_true,decide_eq_true_eq] at h;exact h.1
theorem eVZ {n:List Int} (h:a4Z n=true):n≠[]:=by
 rintro rfl;revert h;decide
theorem jWZ:a4Z pCZ=false:=by decide
theorem n8Z {l:List qT0} {n:List Int} (h:0≤bMZ l n):∃ k,k<l.length∧bMZ l n=k∧l.getD k []=n:=by
 rcases bsZ (fun x=>decide (x=n)) l with ⟨h1,_⟩ | ⟨k,h1,h2,_,h4⟩
 ·have:bMZ l n=-1:=h1
  omega
 ·exact ⟨k,h1,h2,of_decide_eq_true (h4 [])⟩
theorem eMZ {l:List qT0} {n:List Int} (h:n∈l):0≤bMZ l n:=by
 rcases bsZ (fun x=>decide (x=n)) l with ⟨_,h2⟩ | ⟨k,h1,h2,_,_⟩
 ·rw [List.any_eq_false] at h2
  exact absurd (decide_eq_true rfl) (h2 n h)
 ·have:bMZ l n=k:=h2
  omega
theorem nPZ {l:List qT0} {n:List Int} (h:n ∉ l):bMZ l n=-1 :=
 bFZ (List.any_eq_false.2 fun x hx q=>h (of_decide_eq_true q ▸ hx))
theorem lQZ {l:List qT0} (h:l.Nodup) {k:Nat} (hk:k<l.length):bMZ l (l.getD k [])=k:=by
 refine byZ (d:=[]) hk (List.any_eq_false.2 fun x hx q=>?_) (decide_eq_true rfl)
 have q:=of_decide_eq_true q
 have h2:(l.take (k+1)).Nodup:=List.Nodup.sublist (List.take_sublist _ _) h
 rw [aaZ ([]:List Int) hk,cCZ] at h2
 exact h2.2 (q ▸ hx)
theorem cZZ:∀ (l:List Rl),(cOZ l).Nodup∧∀ n,n∈cOZ l↔∃ r∈l,r.1=n:=by
 intro l
 have key:∀ k,k≤l.length→(cOZ (l.take k)).Nodup∧∀ n,n∈cOZ (l.take k)↔∃ r∈l.take k,r.1=n:=by
  intro k
  induction k with
  | zero=>intro _;exact ⟨by simp [cOZ],fun n=>by simp [cOZ]⟩
  | succ k ih =>
   intro h
   obtain ⟨h1,h2⟩:=ih (by omega)
   rw [aaZ rl0 (by omega),cEZ]
   split
   ·rename_i hm
    refine ⟨h1,fun n=>?_⟩
    rw [h2]
    constructor
    ·rintro ⟨r,hr,e⟩;exact ⟨r,List.mem_append_left _ hr,e⟩
    ·rintro ⟨r,hr,e⟩
     rcases List.mem_append.1 hr with hr | hr
     ·exact ⟨r,hr,e⟩
     ·rw [List.mem_singleton] at hr;subst hr;subst e
      exact (h2 _).1 hm
   ·rename_i hm
    refine ⟨cCZ.2 ⟨h1,hm⟩,fun n=>?_⟩
    rw [List.mem_append,h2,List.mem_singleton]
    constructor
    ·rintro (⟨r,hr,e⟩ | e)
     ·exact ⟨r,List.mem_append_left _ hr,e⟩
     ·exact ⟨_,List.mem_append_right _ (List.mem_singleton.2 rfl),e.symm⟩
    ·rintro ⟨r,hr,e⟩
     rcases List.mem_append.1 hr with hr | hr
     ·exact .inl ⟨r,hr,e⟩
     ·rw [List.mem_singleton] at hr;subst hr;exact .inr e.symm
 have:=key l.length (Nat.le_refl _)
 rwa [List.take_of_length_le (Nat.le_refl _)] at this
structure GoodP (g:Gr):Prop where
  tl:g.1.length≤20
  td:(g.1.map (·.1)).Nodup
  tn:∀ t∈g.1,a4Z t.1=true
  tv:∀ t∈g.1,t.1 ∉ cOZ g.2.2.2.2.1
  st:g.2.2.2.1∈cOZ g.2.2.2.2.1
  rl:g.2.2.2.2.1.length≤40
  rn:∀ r∈g.2.2.2.2.1,hnZ r=true
  rs:∀ r∈g.2.2.2.2.1,∀ n∈r.2.1,0≤cXZ (amZ g) n
  ll:g.2.2.1.length≤10
theorem jwZ (g:Gr):((ofO g).1=pl0∧(ofO g).2.1≠0∧((ofO g).2.2=[]↔(ofO g).2.1=1))∨(ofO g=(dGZ g (amZ g),(0,[]))∧GoodP g):=by
 unfold ofO
 by_cases hR:clZ g=false
 ·rw [if_pos hR];exact .inl ⟨rfl,by decide,by simp⟩
 rw [if_neg hR]
 have hR:clZ g=true:=by simpa using hR
 obtain ⟨⟨_,t2,t3⟩,⟨_,l2,l3⟩,_,_,hst,_,hr2,hr3⟩:=(c7Z g).1 hR
 simp only [crZ,Bool.and_eq_true,decide_eq_true_eq,List.all_eq_true] at t3
 have tn:∀ t∈g.1,a4Z t.1=true:=fun t ht=>t3.1 _ (List.mem_map.2 ⟨t,ht,rfl⟩)
 have hd:(amZ g).2.1=cOZ g.2.2.2.2.1:=rfl
 rcases bsZ (fun t:Tk=>decide (t.1∈(amZ g).2.1)) g.1 with ⟨h1,h2⟩ | ⟨k,k1,k2,_,_⟩
 ·rw [h1,if_neg (by decide)]
  rw [List.any_eq_false] at h2
  have tv:∀ t∈g.1,t.1 ∉ cOZ g.2.2.2.2.1:=fun t ht q=>h2 t ht (decide_eq_true q)
  by_cases hU:(koZ g (amZ g)).2=true
  ·rw [if_pos hU]
   refine .inl ⟨rfl,(by decide:(16:Int)≠0),⟨fun q=>?_,fun q=>absurd (show (16:Int)=1 from q) (by decide)⟩⟩
   exfalso
   have q:(koZ g (amZ g)).1=[]:=q
   unfold koZ at q
   cases hf:g.2.2.2.2.1.findSome? (kyZ g.2.2.1 (amZ g)) with
   | none=>rw [hf] at q;exact eVZ hst q
   | some n =>
    rw [hf] at q
    have q:n=[]:=q
    obtain ⟨r,hr,hb⟩:=List.exists_of_findSome?_eq_some hf
    obtain ⟨_,_,r3,_,_⟩:=aPZ (hr3 r hr)
    unfold kyZ at hb
    rcases bsZ (fun n=>decide (cXZ (amZ g) n<0)) r.2.1 with ⟨b1,_⟩ | ⟨j,b1,b2,_,_⟩
    ·rw [b1,if_neg (by decide)] at hb
     split at hb
     ·rename_i hc;cases hb;exact hc.1 q
     ·cases hb
    ·rw [b2,if_pos (by omega),Int.toNat_natCast] at hb
     cases hb
     exact eVZ (List.all_eq_true.1 r3 _ (ahZ [] r.2.1 j b1)) q
  ·rw [if_neg hU]
   refine .inr ⟨rfl,t2,t3.2,tn,tv,?_,hr2,hr3,?_,l2⟩
   ·unfold koZ at hU
    split at hU
    ·exact absurd rfl hU
    ·simp only [Bool.not_eq_true',decide_eq_false_iff_not,Decidable.not_not] at hU;exact hU
   ·intro r hr n hn
    unfold koZ at hU
    cases hf:g.2.2.2.2.1.findSome? (kyZ g.2.2.1 (amZ g)) with
    | some n=>rw [hf] at hU;exact absurd rfl hU
    | none =>
     rw [List.findSome?_eq_none_iff] at hf
     have hb:=hf r hr
     unfold kyZ at hb
     split at hb
     ·cases hb
     ·rename_i hc
      rcases bsZ (fun n=>decide (cXZ (amZ g) n<0)) r.2.1 with ⟨_,b2⟩ | ⟨j,_,b2,_,_⟩
      ·rw [List.any_eq_false] at b2
       have:=b2 n hn
       simp only [decide_eq_true_eq] at this;omega
      ·rw [b2] at hc;omega
 ·rw [k2,if_pos (by omega),Int.toNat_natCast]
  refine .inl ⟨rfl,(by decide:(15:Int)≠0),⟨fun q=>absurd q (eVZ (tn _ (ahZ tk0 g.1 k k1))),fun q=>absurd (show (15:Int)=1 from q) (by decide)⟩⟩
section
variable {g:Gr} (h:GoodP g)
include h
theorem GoodP.terms:(amZ g).1.Nodup∧(∀ n∈(amZ g).1,n≠[])∧∀ n∈(amZ g).2.1,n ∉ (amZ g).1∧n≠[]:=by
 have hv:∀ n∈cOZ g.2.2.2.2.1,a4Z n=true:=fun n hn=>by
  obtain ⟨r,hr,rfl⟩:=((cZZ _).2 n).1 hn
  exact (aPZ (h.rn r hr)).1
 refine ⟨List.nodup_cons.2 ⟨fun q=>?_,h.td⟩,fun n hn=>?_,fun n hn=>⟨fun q=>?_,eVZ (hv n hn)⟩⟩
 ·obtain ⟨t,ht,e⟩:=List.mem_map.1 q
  have:=h.tn t ht
  rw [e,jWZ] at this;cases this
 ·rcases List.mem_cons.1 hn with rfl | hn
  ·decide
  ·obtain ⟨t,ht,rfl⟩:=List.mem_map.1 hn
   exact eVZ (h.tn t ht)
 ·rcases List.mem_cons.1 q with rfl | q
  ·have:=hv _ hn
   rw [jWZ] at this;cases this
  ·obtain ⟨t,ht,rfl⟩:=List.mem_map.1 q
   exact h.tv t ht hn
theorem GoodP.vars:(amZ g).2.1.Nodup:=(cZZ _).1
theorem GoodP.back {z:Nat} (hz:(z:Int)<fwZ (amZ g)):bzZ (amZ g) z≠[]∧cXZ (amZ g) (bzZ (amZ g) z)=z:=by
 obtain ⟨t1,t2,t3⟩:=h.terms
 have hv:=h.vars
 unfold fwZ at hz
 unfold bzZ
 rw [if_neg (by omega),if_neg (by unfold fwZ;omega),if_neg (by unfold fwZ;omega)]
 by_cases hk:z<(amZ g).1.length
 ·have ht:czZ (amZ g) z=true:=by unfold czZ;rw [decide_eq_true (by omega),decide_eq_true (by omega)];rfl
  rw [if_pos ht,Int.toNat_natCast]
  refine ⟨t2 _ (ahZ [] _ z hk),?_⟩
  unfold cXZ
  rw [lQZ t1 hk,if_pos (by omega)]
 ·have ht:czZ (amZ g) z=false:=by unfold czZ;rw [decide_eq_false (p:=_<_) (by omega),Bool.and_false]
  rw [if_neg (by rw [ht];decide)]
  have hj:((z:Int)-(amZ g).1.length).toNat<(amZ g).2.1.length:=by omega
  have hm:=ahZ [] (amZ g).2.1 _ hj
  refine ⟨(t3 _ hm).2,?_⟩
  unfold cXZ
  rw [nPZ (t3 _ hm).1,if_neg (by decide),lQZ hv hj,if_pos (by omega)]
  omega
end
end Go.Am.N
