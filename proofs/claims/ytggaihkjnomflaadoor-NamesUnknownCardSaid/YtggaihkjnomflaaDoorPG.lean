/-
  A part of the proof of a law: see the text that states it.
-/
import Derived.Test.YtggaihkjnomflaaDoorPC
import Derived.Test.YtggaihkjnomflaaDoorF
import Derived.Test.YtggaihkjnomflaaDoorVcX
set_option linter.all false
namespace Go.Am.D
open Go Go.Am.Pr Go.Am.D.L
set_option maxRecDepth 100000
def badR (lv:List Lv) (p:Pl) (r:Rl):Option qT0 :=
 if 0≤findI (fun n=>decide (symO p n<0)) r.2.1 then some (r.2.1.getD (findI (fun n=>decide (symO p n<0)) r.2.1).toNat [])
 else if r.2.2.1≠[]∧levK lv r.2.2.1=0 then some r.2.2.1 else none
def unkO (g:Gr) (p:Pl):List Int×Bool:=match g.2.2.2.2.1.findSome? (badR g.2.2.1 p) with
 | some n=>(n,true)
 | none=>(g.2.2.2.1,!decide (g.2.2.2.1∈p.2.1))
theorem findSome_hit {α β:Type} {f:α→Option β} {l:List α} {d:α} {k:Nat} {b:β} (hk:k<l.length) (h1:(l.take k).findSome? f=none) (h2:f (l.getD k d)=some b):l.findSome? f=some b:=by
 have e:l=l.take k++(l.getD k d::l.drop (k+1)):=by
  rw [← drop_cons d hk,List.take_append_drop]
 rw [e,List.findSome?_append,h1,List.findSome?_cons,h2];rfl
theorem findSome_snoc {α β:Type} (f:α→Option β) (l:List α) (x:α) (h1:l.findSome? f=none) (h2:f x=none):(l++[x]).findSome? f=none:=by
 rw [List.findSome?_append,h1,List.findSome?_cons,h2];rfl
theorem none_ev {p:Pl} (h:PlB p) (l:List qT0) (hl:l.length≤1000000):E 42 [.tv [] qt9 l,.fn 41 [] [.sp tPl p]] [] (iv (findI (fun n=>decide (symO p n<0)) l)) []:=by
 have sy:=fun n=>sym_ev h n
 have e1:E 58 [.tv [] qt9 l,.fn 41 [] [.sp tPl p]] [] (iv (findI (fun n=>decide (symO p n<0)) l)) []:=by
  generalize hS:symO p=S at sy ⊢
  obtain ⟨a,b,c,d,e,f,⟨⟩⟩:=p
  refine ev_of (vc58002 l a b c d e f _ ?_)
  refine ⟨fun z=>∃ k:Nat,z=k∧k≤l.length∧(l.take k).any (fun n=>decide (S n<0))=false,fun z=>((l.length:Int)-z).toNat,⟨0,rfl,by omega,rfl⟩,?_⟩
  rintro z ⟨k,rfl,hk,hv⟩
  refine ⟨fun h=>?_,fun h=>?_⟩
  ·(simp only [decide_eq_true_eq,decide_eq_false_iff_not,Bool.not_eq_true',Bool.not_eq_false'] at h)
   have hk':k<l.length:=by omega
   rw [Int.toNat_natCast]
   refine ⟨⟨by omega⟩,_,⟨ev_of (vc41 (l.getD k []) a b c d e f _ ⟨_,⟨sy _⟩,rfl,rfl⟩)⟩,fun h2=>⟨tvI ?_,rfl⟩,fun h2=>⟨⟨by omega⟩,⟨k+1,by omega,by omega,?_⟩,⟨by ((try dsimp only);omega)⟩⟩⟩
   ·exact (findI_hit (d:=[]) hk' hv h2).symm
   ·rw [take_snoc ([]:List Int) hk',any_snoc,hv];exact h2
  ·(simp only [decide_eq_true_eq,decide_eq_false_iff_not,Bool.not_eq_true',Bool.not_eq_false'] at h)
   rw [List.take_of_length_le (by omega)] at hv
   exact ⟨tvI (findI_no hv).symm,rfl⟩
 obtain ⟨a,b,c,d,e,f,⟨⟩⟩:=p
 exact ev_of (vc42 l a b c d e f _ ⟨_,⟨e1⟩,rfl,rfl⟩)
theorem unk_ev (g:Gr) (hg:Few g) {p:Pl} (h:PlB p):E 24 [.tv [] tGr g,.tv [] tPl p] [] (.tup [sv (unkO g p).1,bv (unkO g p).2]) []:=by
 have lev:=fun n=>level_ev g n (by have:=hg.lv;omega) hg.lvs
 have non:=fun l hl=>none_ev h l hl
 have f7:=hg.rl
 have f8:=hg.rls
 have hv:=h.v
 have hu:unkO g p=unkO g p:=rfl
 conv at hu=>rhs;unfold unkO
 have hbr:∀ r,badR g.2.2.1 p r=badR g.2.2.1 p r:=fun r=>rfl
 conv at hbr=>intro r;rhs;unfold badR
 generalize hS:symO p=S at non hbr
 generalize hB:badR g.2.2.1 p=B at hu hbr
 rw [hu]
 clear hu hg h
 obtain ⟨tk,sk,lv,st,rl,⟨⟩⟩:=g
 obtain ⟨a,b,c,d,e,f,⟨⟩⟩:=p
 dsimp only at f7 f8 hv hbr lev ⊢
 refine ev_of (vc24 tk sk lv st rl a b c d e f _ ?_)
 refine ⟨fun z=>∃ k:Nat,z=k∧k≤rl.length∧(rl.take k).findSome? B=none,fun z=>((rl.length:Int)-z).toNat,⟨0,rfl,by omega,rfl⟩,?_⟩
 rintro z ⟨k,rfl,hk,hn⟩
 refine ⟨fun q=>?_,fun q=>?_⟩
 ·(simp only [decide_eq_true_eq,decide_eq_false_iff_not,Bool.not_eq_true',Bool.not_eq_false'] at q)
  have hk':k<rl.length:=by omega
  rw [Int.toNat_natCast]
  have h8:=f8 _ (getD_mem' rl0 rl k hk')
  have hb:=hbr (rl.getD k rl0)
  have bd:=findI_bd (fun n=>decide (S n<0)) (rl.getD k rl0).2.1
  refine ⟨⟨by omega⟩,_,⟨non (rl.getD k rl0).2.1 (by omega)⟩,fun q1=>⟨⟨?_⟩,?_⟩,fun q1=>⟨fun q2=>⟨_,⟨lev _⟩,fun q3=>?_,fun q3=>⟨⟨by omega⟩,⟨k+1,by omega,by omega,?_⟩,⟨by ((try dsimp only);omega)⟩⟩⟩,fun q2=>⟨⟨by omega⟩,⟨k+1,by omega,by omega,?_⟩,⟨by ((try dsimp only);omega)⟩⟩⟩⟩
  ·(simp only [decide_eq_true_eq,decide_eq_false_iff_not,Bool.not_eq_true',Bool.not_eq_false'] at q1);exact ⟨q1,bd.2⟩
  ·(simp only [decide_eq_true_eq,decide_eq_false_iff_not,Bool.not_eq_true',Bool.not_eq_false'] at q1)
   rw [if_pos q1] at hb
   rw [findSome_hit hk' hn hb]
   exact ⟨rfl,rfl⟩
  ·(simp only [decide_eq_true_eq,decide_eq_false_iff_not,Bool.not_eq_true',Bool.not_eq_false'] at q1 q2 q3)
   rw [if_neg q1,if_pos ⟨q2,q3⟩] at hb
   rw [findSome_hit hk' hn hb]
   exact ⟨rfl,rfl⟩
  ·(simp only [decide_eq_true_eq,decide_eq_false_iff_not,Bool.not_eq_true',Bool.not_eq_false'] at q1 q2 q3)
   rw [if_neg q1,if_neg fun q=>q3 q.2] at hb
   rw [take_snoc rl0 hk'];exact findSome_snoc _ _ _ hn hb
  ·(simp only [decide_eq_true_eq,decide_eq_false_iff_not,Bool.not_eq_true',Bool.not_eq_false'] at q1 q2)
   rw [if_neg q1,if_neg fun q=>q.1 q2] at hb
   rw [take_snoc rl0 hk'];exact findSome_snoc _ _ _ hn hb
 ·(simp only [decide_eq_true_eq,decide_eq_false_iff_not,Bool.not_eq_true',Bool.not_eq_false'] at q)
  rw [List.take_of_length_le (by omega)] at hn
  rw [hn]
  exact ⟨_,⟨contains_ev _ _ (by omega)⟩,rfl,rfl⟩
def lastV (p:Pl) (l:List qT0):Int:=l.foldl (fun v n=>if termO p (symO p n)=true then p.2.2.2.1.getD (symO p n).toNat 0 else v) 0
theorem lastV_snoc (p:Pl) (l:List qT0) (n:List Int):lastV p (l++[n])=if termO p (symO p n)=true then p.2.2.2.1.getD (symO p n).toNat 0 else lastV p l:=by
 unfold lastV;rw [List.foldl_append];rfl
def prodO (lv:List Lv) (p:Pl) (r:Rl):Pd:=(symO p r.1,(r.2.1.map (symO p),((if r.2.2.1≠[] then levK lv r.2.2.1 else lastV p r.2.1),())))
theorem prod_ev (g:Gr) (hg:Few g) {p:Pl} (h:PlB p) (hl:p.2.2.2.1.length=p.1.length) (r:Rl) (hr:r.2.1.length≤1000000):E 25 [.tv [] tGr g,.tv [] tPl p,.tv [] tRl r] [] (.tv [] tPd (prodO g.2.2.1 p r)) []:=by
 have lev:=fun n=>level_ev g n (by have:=hg.lv;omega) hg.lvs
 have sy:=fun n=>sym_ev h n
 have te:=fun x=>term_ev h x
 have hlast:=lastV_snoc p
 have hl0:lastV p []=0:=rfl
 have htt:∀ x,termO p x=true→0≤x∧x<p.1.length:=fun x q=>by
  unfold termO at q;rw [Bool.and_eq_true,decide_eq_true_eq,decide_eq_true_eq] at q;exact q
 unfold prodO
 generalize hS:symO p=S at sy hlast ⊢
 generalize hV:lastV p=V at hlast hl0 ⊢
 generalize hT:termO p=T at te hlast htt
 clear hg h
 obtain ⟨tk,sk,lv,st,rl,⟨⟩⟩:=g
 obtain ⟨a,b,c,d,e,f,⟨⟩⟩:=p
 obtain ⟨L,ns,pr,ac,⟨⟩⟩:=r
 dsimp only at hl hr hlast htt lev ⊢
 refine ev_of (vc25 tk sk lv st rl a b c d e f L ns pr ac _ ⟨_,⟨sy L⟩,?_⟩)
 refine ⟨fun z x l v=>∃ k:Nat,z=k∧k≤ns.length∧x=S L∧l=(ns.take k).map S∧v=V (ns.take k),fun z _ _ _=>((ns.length:Int)-z).toNat,⟨0,rfl,by omega,rfl,rfl,by rw [List.take_zero];exact hl0.symm⟩,?_⟩
 rintro z x l v ⟨k,rfl,hk,rfl,rfl,rfl⟩
 have hbn:1000000<bigN:=by decide
 refine ⟨fun q=>?_,fun q=>?_⟩
 ·(simp only [decide_eq_true_eq,decide_eq_false_iff_not,Bool.not_eq_true',Bool.not_eq_false'] at q)
  have hk':k<ns.length:=by omega
  rw [Int.toNat_natCast]
  have hls:=hlast (ns.take k) (ns.getD k [])
  refine ⟨⟨by omega⟩,_,⟨sy _⟩,⟨?_⟩,_,⟨te _⟩,fun q2=>⟨⟨?_⟩,⟨by omega⟩,⟨rfl⟩,⟨k+1,by omega,by omega,rfl,?_,?_⟩,⟨by ((try dsimp only);omega)⟩⟩,fun q2=>⟨⟨by omega⟩,⟨rfl⟩,⟨k+1,by omega,by omega,rfl,?_,?_⟩,⟨by ((try dsimp only);omega)⟩⟩⟩
  ·simp only [List.length_cons,List.length_map,List.length_take,List.length_nil];omega
  ·have:=htt _ q2;omega
  ·rw [take_snoc ([]:List Int) hk',List.map_append];rfl
  ·rw [take_snoc ([]:List Int) hk',hls,if_pos q2]
  ·rw [take_snoc ([]:List Int) hk',List.map_append];rfl
  ·rw [take_snoc ([]:List Int) hk',hls,if_neg (by rw [q2];decide)]
 ·(simp only [decide_eq_true_eq,decide_eq_false_iff_not,Bool.not_eq_true',Bool.not_eq_false'] at q)
  have e0:ns.take k=ns:=List.take_of_length_le (by omega)
  rw [e0]
  refine ⟨fun q2=>⟨_,⟨lev pr⟩,?_⟩,fun q2=>?_⟩
  ·(simp only [decide_eq_true_eq,decide_eq_false_iff_not,Bool.not_eq_true',Bool.not_eq_false'] at q2);rw [if_pos q2];exact ⟨rfl,rfl⟩
  ·(simp only [decide_eq_true_eq,decide_eq_false_iff_not,Bool.not_eq_true',Bool.not_eq_false'] at q2);rw [if_neg (not_not_intro q2)];exact ⟨rfl,rfl⟩
end Go.Am.D
namespace Go.Am.D
open Go Go.Am.Pr Go.Am.D.L
set_option maxRecDepth 100000
abbrev hP (p:Pl):Heap:=[((0,0),⟨⟨tPl,p⟩,[]⟩)]
theorem tok_in (l:List Tk) (hl:l.length≤1000000) (p:Pl) (hp:p.2.1.length≤1000000):E 21 [.tv [] (.slice tTk) l,.fn 22 [] [.op (0,0) []]] (hP p) (iv (findI (fun t:Tk=>decide (t.1∈p.2.1)) l)) (hP p):=by
 obtain ⟨a,b,c,d,e,f,⟨⟩⟩:=p
 dsimp only at hp ⊢
 have e1:E 40 [.tv [] (.slice tTk) l,.fn 22 [] [.op (0,0) []]] (hP (a,(b,(c,(d,(e,(f,()))))))) (iv (findI (fun t:Tk=>decide (t.1∈b)) l)) (hP (a,(b,(c,(d,(e,(f,()))))))):=by
  refine ev_of (vc40 l a b c d e f _ ?_)
  refine ⟨fun z a' b' c' d' e' f'=>∃ k:Nat,z=k∧k≤l.length∧(l.take k).any (fun t:Tk=>decide (t.1∈b))=false∧a'=a∧b'=b∧c'=c∧d'=d∧e'=e∧f'=f,fun z _ _ _ _ _ _=>((l.length:Int)-z).toNat,⟨0,rfl,by omega,rfl,rfl,rfl,rfl,rfl,rfl,rfl⟩,?_⟩
  rintro z a' b' c' d' e' f' ⟨k,rfl,hk,hv,rfl,rfl,rfl,rfl,rfl,rfl⟩
  refine ⟨fun h=>?_,fun h=>?_⟩
  ·(simp only [decide_eq_true_eq,decide_eq_false_iff_not,Bool.not_eq_true',Bool.not_eq_false'] at h)
   have hk':k<l.length:=by omega
   rw [Int.toNat_natCast]
   refine ⟨⟨by omega⟩,_,a',b',c',d',e',f',⟨ev_of (vc22 (l.getD k tk0).1 (l.getD k tk0).2.1.1 (l.getD k tk0).2.1.2.1 (l.getD k tk0).2.1.2.2.1 a' b' c' d' e' f' _ ⟨_,⟨contains_ev b' _ hp⟩,rfl,rfl⟩)⟩,fun h2=>⟨tvI ?_,rfl⟩,fun h2=>⟨⟨by omega⟩,⟨k+1,by omega,by omega,?_,rfl,rfl,rfl,rfl,rfl,rfl⟩,⟨by ((try dsimp only);omega)⟩⟩⟩
   ·exact (findI_hit (d:=tk0) hk' hv h2).symm
   ·rw [take_snoc tk0 hk',any_snoc,hv];exact h2
  ·(simp only [decide_eq_true_eq,decide_eq_false_iff_not,Bool.not_eq_true',Bool.not_eq_false'] at h)
   rw [List.take_of_length_le (by omega)] at hv
   exact ⟨tvI (findI_no hv).symm,rfl⟩
 exact ev_of (vc21 l a b c d e f _ ⟨_,a,b,c,d,e,f,⟨e1⟩,rfl,rfl⟩)
def rulesP (g:Gr) (p:Pl):List Pd:=(accO p,([symO p g.2.2.2.1],((0:Int),())))::g.2.2.2.2.1.map (prodO g.2.2.1 p)
def planP (g:Gr) (p:Pl):Pl:=(p.1,(p.2.1,(rulesP g p,(p.2.2.2.1,(p.2.2.2.2.1,(p.2.2.2.2.2.1,()))))))
def ofO (g:Gr):Pl×Int×List Int :=
 if rightO g=false then (pl0,(1,[]))
 else if 0≤findI (fun t:Tk=>decide (t.1∈(declO g).2.1)) g.1 then (pl0,(15,(g.1.getD (findI (fun t:Tk=>decide (t.1∈(declO g).2.1)) g.1).toNat tk0).1))
 else if (unkO g (declO g)).2=true then (pl0,(16,(unkO g (declO g)).1))
 else (planP g (declO g),(0,[]))
abbrev ofA (o:Pl×Int×List Int):AV:=.tup [.tv [] tPl o.1,iv o.2.1,sv o.2.2]
theorem declB {g:Gr} (h:Few g):PlB (declO g)∧(declO g).2.2.2.1.length=(declO g).1.length:=by
 have h1:=h.tk
 have h2:=h.rl
 have h3:=varsO_len g.2.2.2.2.1 g.2.2.2.2.1.length (Nat.le_refl _)
 rw [List.take_of_length_le (Nat.le_refl _)] at h3
 refine ⟨⟨?_,?_⟩,?_⟩
 ·unfold declO;simp only [List.length_cons,List.length_map];omega
 ·unfold declO;dsimp only;omega
 ·unfold declO;simp only [List.length_cons,List.length_map]
theorem of_ev (g:Gr) (hg:Few g):E 9 [.tv [] tGr g] [] (ofA (ofO g)) []:=by
 have R:=right_ev g hg
 have D:=decl_ev g hg
 obtain ⟨hb,hl⟩:=declB hg
 have f1:=hg.tk
 have f7:=hg.rl
 have f8:=hg.rls
 unfold ofO
 generalize hp:declO g=p at D hb hl ⊢
 have hv:=hb.v
 have T:=tok_in g.1 (by omega) p (by omega)
 have U:=unk_ev g hg hb
 have A:=acc_ev hb
 have S:=sym_ev hb g.2.2.2.1
 have bd:=findI_bd (fun t:Tk=>decide (t.1∈p.2.1)) g.1
 have P:=fun (rs:List Pd) (r:Rl) (hr:r.2.1.length≤1000000)=>prod_ev g hg (p:=(p.1,(p.2.1,(rs,(p.2.2.2.1,(p.2.2.2.2.1,(p.2.2.2.2.2.1,()))))))) ⟨hb.t,hb.v⟩ hl r hr
 have hP:∀ (rs:List Pd) (r:Rl),prodO g.2.2.1 (p.1,(p.2.1,(rs,(p.2.2.2.1,(p.2.2.2.2.1,(p.2.2.2.2.2.1,())))))) r=prodO g.2.2.1 p r:=fun rs r=>rfl
 simp only [hP] at P
 have hpl:planP g p=planP g p:=rfl
 conv at hpl=>rhs;unfold planP rulesP
 generalize hF:prodO g.2.2.1 p=F at P hpl
 clear hg hP hp
 generalize planP g p=PP' at hpl ⊢
 generalize symO p g.2.2.2.1=S0 at S hpl
 generalize accO p=A0 at A hpl
 generalize unkO g p=U0 at U ⊢
 generalize hR:rightO g=R0 at R ⊢
 generalize hi:findI (fun t:Tk=>decide (t.1∈p.2.1)) g.1=i at T bd ⊢
 clear hi hR
 obtain ⟨tk,sk,lv,st,rl,⟨⟩⟩:=g
 obtain ⟨a,b,c,d,e,f,⟨⟩⟩:=p
 dsimp only at f1 f7 f8 bd hpl P ⊢
 subst hpl
 refine ev_of (vc9 tk sk lv st rl _ ⟨_,⟨R⟩,fun q=>?_,fun q=>⟨a,b,c,d,e,f,⟨D⟩,_,a,b,c,d,e,f,⟨T⟩,fun q1=>⟨⟨?_⟩,?_⟩,fun q1=>⟨_,_,⟨U⟩,fun q2=>?_,fun q2=>⟨_,⟨A⟩,_,⟨S⟩,?_⟩⟩⟩⟩)
 ·(simp only [decide_eq_true_eq,decide_eq_false_iff_not,Bool.not_eq_true',Bool.not_eq_false'] at q);rw [if_pos q];exact ⟨rfl,rfl⟩
 ·(simp only [decide_eq_true_eq,decide_eq_false_iff_not,Bool.not_eq_true',Bool.not_eq_false'] at q1);exact ⟨q1,bd.2⟩
 ·(simp only [decide_eq_true_eq,decide_eq_false_iff_not,Bool.not_eq_true',Bool.not_eq_false'] at q q1);rw [if_neg (by rw [q];decide),if_pos q1];exact ⟨rfl,rfl⟩
 ·(simp only [decide_eq_true_eq,decide_eq_false_iff_not,Bool.not_eq_true',Bool.not_eq_false'] at q q1);rw [if_neg (by rw [q];decide),if_neg q1,if_pos q2];exact ⟨rfl,rfl⟩
 ·(simp only [decide_eq_true_eq,decide_eq_false_iff_not,Bool.not_eq_true',Bool.not_eq_false'] at q q1)
  rw [if_neg (by rw [q];decide),if_neg q1,if_neg (by rw [q2];decide)]
  have hbn:1000000<bigN:=by decide
  refine ⟨fun z a' b' c' d' e' f'=>∃ k:Nat,z=k∧k≤rl.length∧a'=a∧b'=b∧c'=(A0,([S0],((0:Int),())))::(rl.take k).map F∧d'=d∧e'=e∧f'=f,fun z _ _ _ _ _ _=>((rl.length:Int)-z).toNat,⟨0,rfl,by omega,rfl,rfl,rfl,rfl,rfl,rfl⟩,?_⟩
  rintro z a' b' c' d' e' f' ⟨k,rfl,hk,rfl,rfl,rfl,rfl,rfl,rfl⟩
  refine ⟨fun q3=>?_,fun q3=>?_⟩
  ·(simp only [decide_eq_true_eq,decide_eq_false_iff_not,Bool.not_eq_true',Bool.not_eq_false'] at q3)
   have hk':k<rl.length:=by omega
   rw [Int.toNat_natCast]
   have h8:=f8 _ (getD_mem' rl0 rl k hk')
   refine ⟨⟨by omega⟩,(F (rl.getD k rl0)).1,(F (rl.getD k rl0)).2.1,(F (rl.getD k rl0)).2.2.1,⟨P _ (rl.getD k rl0) (by omega)⟩,⟨?_⟩,⟨by omega⟩,⟨rfl⟩,⟨k+1,by omega,by omega,rfl,rfl,?_,rfl,rfl,rfl⟩,⟨by ((try dsimp only);omega)⟩⟩
   ·simp only [List.length_cons,List.length_map,List.length_take,List.length_nil];omega
   ·rw [take_snoc rl0 hk',List.map_append];rfl
  ·(simp only [decide_eq_true_eq,decide_eq_false_iff_not,Bool.not_eq_true',Bool.not_eq_false'] at q3)
   have e0:rl.take k=rl:=List.take_of_length_le (by omega)
   rw [e0]
   exact ⟨rfl,rfl⟩
end Go.Am.D
namespace Go.Am.D
open Go Go.Am.Pr Go.Am.D.L
set_option maxRecDepth 100000
def s8:List Int:=[37,116,111,107,101,110,32,78,32,34,110,34,32,37,116,111,107,101,110,32,80,32,34,112,34,32,37,108,101,102,116,32,80,32,37,37,32,69,32,58,32,69,32,80,32,69,32,124,32,78,32,59]
abbrev g8:Gr:=([([78],(([110],([],(false,()))),())),([80],(([112],([],(false,()))),()))],([],([(1,([[80]],()))],([69],([([69],([[69],[80],[69]],([],([],())))),([69],([[78]],([],([],()))))],())))))
abbrev g9:Gr:=([],([],([],([69],([([69],([[70]],([],([],()))))],())))))
abbrev p8:Pl:=([endT,[78],[80]],([[69]],([(4,([3],(0,()))),(3,([3,2,3],(1,()))),(3,([1],(0,())))],([0,0,1],([0,1],([[],[],[]],()))))))
theorem few8:Few g8:=⟨by decide,by decide,by decide,by decide,by decide,by decide,by decide,by decide,by decide⟩
theorem few9:Few g9:=⟨by decide,by decide,by decide,by decide,by decide,by decide,by decide,by decide,by decide⟩
theorem r8:E 18 [.tv [] .str s8] [] (marksA (g8,dg0)) []:=read_is s8 _ (by decide) (by decide) (by kernel_rfl)
theorem o8:E 9 [.tv [] tGr g8] [] (ofA (p8,(0,[]))) []:=by
 have h:ofO g8=(p8,(0,[])):=by kernel_rfl
 rw [← h];exact of_ev g8 few8
theorem o9:E 9 [.tv [] tGr g9] [] (ofA (pl0,(16,[70]))) []:=by
 have h:ofO g9=(pl0,(16,[70])):=by kernel_rfl
 rw [← h];exact of_ev g9 few9
theorem b8:PlS p8:=⟨⟨by decide,by decide⟩,by decide,by decide,by decide,by decide⟩
theorem h8:E 13 [.tv [] tPl p8,iv 1] [] (sv [69,32,58,32,69,32,80,32,69]) []:=by
 have h:showO p8 1=[69,32,58,32,69,32,80,32,69]:=by kernel_rfl
 rw [← h];exact show_ev b8 1
theorem y8:E 12 [.tv [] tPl p8,sv [69]] [] (iv 3) []:=by
 have h:symO p8 [69]=3:=by kernel_rfl
 rw [← h];exact sym_ev b8.toPlB [69]
theorem c8:E 10 [.tv [] tPl p8] [] (iv 4) []:=by
 have h:accO p8=4:=by kernel_rfl
 rw [← h];exact acc_ev b8.toPlB
theorem awake8_ev:E 7 [] [] (bv true) []:=by
 refine ev_of (vc7 _ ⟨_,_,_,_,_,_,_,_,⟨r8⟩,_,_,_,_,_,_,_,_,⟨o8⟩,_,_,_,_,_,_,_,_,⟨o9⟩,fun h=>absurd h (by decide),fun _=>⟨fun _=>⟨fun _=>⟨⟨by decide⟩,fun _=>⟨⟨by decide⟩,fun _=>⟨_,⟨y8⟩,fun _=>⟨_,⟨c8⟩,fun _=>⟨_,⟨h8⟩,fun _=>⟨fun _=>⟨by kernel_rfl,rfl⟩,fun h=>absurd h (by decide)⟩,fun h=>absurd h (by decide)⟩,fun h=>absurd h (by decide)⟩,fun h=>absurd h (by decide)⟩,fun h=>absurd h (by decide)⟩,fun h=>absurd h (by decide)⟩,fun h=>absurd h (by decide)⟩,fun h=>absurd h (by decide)⟩⟩)
end Go.Am.D
namespace Go.Am.D
open Go Go.Am.Pr Go.Am.D.L
set_option maxRecDepth 100000
theorem rulO_split {r:Rl} (h:rulO r=true):nameO r.1=true∧r.2.1.length≤8∧r.2.1.all nameO=true∧(r.2.2.1=[]∨nameO r.2.2.1=true)∧actO r.2.2.2.1=true:=by
 simpa only [rulO,Bool.and_eq_true,Bool.or_eq_true,decide_eq_true_eq] using h
theorem rightO_iff (g:Gr):rightO g=true↔((∀ t∈g.1,patO t.2.1=true)∧g.1.length≤20∧onceO (g.1.map (·.1))=true)∧((∀ x∈g.2.2.1,lvO1 x=true)∧g.2.2.1.length≤10∧onceO (g.2.2.1.flatMap (·.2.1))=true)∧g.2.1.length≤4∧(∀ p∈g.2.1,patO p=true)∧nameO g.2.2.2.1=true∧0<g.2.2.2.2.1.length∧g.2.2.2.2.1.length≤40∧∀ r∈g.2.2.2.2.1,rulO r=true:=by
 unfold rightO tokO lvO
 simp only [Bool.and_eq_true,decide_eq_true_eq,List.all_eq_true]
theorem nameO_len {n:List Int} (h:nameO n=true):n.length≤32:=by
 simp only [nameO,Bool.and_eq_true,decide_eq_true_eq] at h;exact h.1
theorem nameO_ne {n:List Int} (h:nameO n=true):n≠[]:=by
 rintro rfl;revert h;decide
theorem nameO_end:nameO endT=false:=by decide
theorem place_in {l:List qT0} {n:List Int} (h:n∈l):0≤placeK l n:=by
 rcases findI_cases (fun x=>decide (x=n)) l with ⟨_,h2⟩ | ⟨k,h1,h2,_,_⟩
 ·rw [List.any_eq_false] at h2
  exact absurd (decide_eq_true rfl) (h2 n h)
 ·have:placeK l n=k:=h2
  omega
theorem place_out {l:List qT0} {n:List Int} (h:n ∉ l):placeK l n=-1 :=
 findI_no (List.any_eq_false.2 fun x hx q=>h (of_decide_eq_true q ▸ hx))
theorem place_at {l:List qT0} (h:l.Nodup) {k:Nat} (hk:k<l.length):placeK l (l.getD k [])=k:=by
 refine findI_hit (d:=[]) hk (List.any_eq_false.2 fun x hx q=>?_) (decide_eq_true rfl)
 have q:=of_decide_eq_true q
 have h2:(l.take (k+1)).Nodup:=List.Nodup.sublist (List.take_sublist _ _) h
 rw [take_snoc ([]:List Int) hk,nodup_snoc] at h2
 exact h2.2 (q ▸ hx)
theorem varsO_spec:∀ (l:List Rl),(varsO l).Nodup∧∀ n,n∈varsO l↔∃ r∈l,r.1=n:=by
 intro l
 have key:∀ k,k≤l.length→(varsO (l.take k)).Nodup∧∀ n,n∈varsO (l.take k)↔∃ r∈l.take k,r.1=n:=by
  intro k
  induction k with
  | zero=>intro _;exact ⟨by simp [varsO],fun n=>by simp [varsO]⟩
  | succ k ih =>
   intro h
   obtain ⟨h1,h2⟩:=ih (by omega)
   rw [take_snoc rl0 (by omega),varsO_snoc]
   split
   ·rename_i hm
    refine ⟨h1,fun n=>?_⟩
    rw [h2]
    constructor
    ·rintro ⟨r,hr,e⟩;exact ⟨r,List.mem_append_left _ hr,e⟩
    ·rintro ⟨r,hr,e⟩
     rcases List.mem_append.1 hr with hr | hr
     ·exact ⟨r,hr,e⟩
     ·rw [List.mem_singleton] at hr;subst hr;subst e
      exact (h2 _).1 hm
   ·rename_i hm
    refine ⟨nodup_snoc.2 ⟨h1,hm⟩,fun n=>?_⟩
    rw [List.mem_append,h2,List.mem_singleton]
    constructor
    ·rintro (⟨r,hr,e⟩ | e)
     ·exact ⟨r,List.mem_append_left _ hr,e⟩
     ·exact ⟨_,List.mem_append_right _ (List.mem_singleton.2 rfl),e.symm⟩
    ·rintro ⟨r,hr,e⟩
     rcases List.mem_append.1 hr with hr | hr
     ·exact .inl ⟨r,hr,e⟩
     ·rw [List.mem_singleton] at hr;subst hr;exact .inr e.symm
 have:=key l.length (Nat.le_refl _)
 rwa [List.take_of_length_le (Nat.le_refl _)] at this
structure GoodP (g:Gr):Prop where
  tl:g.1.length≤20
  td:(g.1.map (·.1)).Nodup
  tn:∀ t∈g.1,nameO t.1=true
  tv:∀ t∈g.1,t.1 ∉ varsO g.2.2.2.2.1
  st:g.2.2.2.1∈varsO g.2.2.2.2.1
  rl:g.2.2.2.2.1.length≤40
  rn:∀ r∈g.2.2.2.2.1,rulO r=true
  rs:∀ r∈g.2.2.2.2.1,∀ n∈r.2.1,0≤symO (declO g) n
  ll:g.2.2.1.length≤10
section
variable {g:Gr} (h:GoodP g)
include h
theorem GoodP.terms:(declO g).1.Nodup∧(∀ n∈(declO g).1,n≠[])∧∀ n∈(declO g).2.1,n ∉ (declO g).1∧n≠[]:=by
 have hv:∀ n∈varsO g.2.2.2.2.1,nameO n=true:=fun n hn=>by
  obtain ⟨r,hr,rfl⟩:=((varsO_spec _).2 n).1 hn
  exact (rulO_split (h.rn r hr)).1
 refine ⟨List.nodup_cons.2 ⟨fun q=>?_,h.td⟩,fun n hn=>?_,fun n hn=>⟨fun q=>?_,nameO_ne (hv n hn)⟩⟩
 ·obtain ⟨t,ht,e⟩:=List.mem_map.1 q
  have:=h.tn t ht
  rw [e,nameO_end] at this;cases this
 ·rcases List.mem_cons.1 hn with rfl | hn
  ·decide
  ·obtain ⟨t,ht,rfl⟩:=List.mem_map.1 hn
   exact nameO_ne (h.tn t ht)
 ·rcases List.mem_cons.1 q with rfl | q
  ·have:=hv _ hn
   rw [nameO_end] at this;cases this
  ·obtain ⟨t,ht,rfl⟩:=List.mem_map.1 q
   exact h.tv t ht hn
theorem GoodP.vars:(declO g).2.1.Nodup:=(varsO_spec _).1
theorem GoodP.back {z:Nat} (hz:(z:Int)<accO (declO g)):nameP (declO g) z≠[]∧symO (declO g) (nameP (declO g) z)=z:=by
 obtain ⟨t1,t2,t3⟩:=h.terms
 have hv:=h.vars
 unfold accO at hz
 unfold nameP
 rw [if_neg (by omega),if_neg (by unfold accO;omega),if_neg (by unfold accO;omega)]
 by_cases hk:z<(declO g).1.length
 ·have ht:termO (declO g) z=true:=by unfold termO;rw [decide_eq_true (by omega),decide_eq_true (by omega)];rfl
  rw [if_pos ht,Int.toNat_natCast]
  refine ⟨t2 _ (getD_mem' [] _ z hk),?_⟩
  unfold symO
  rw [place_at t1 hk,if_pos (by omega)]
 ·have ht:termO (declO g) z=false:=by unfold termO;rw [decide_eq_false (p:=_<_) (by omega),Bool.and_false]
  rw [if_neg (by rw [ht];decide)]
  have hj:((z:Int)-(declO g).1.length).toNat<(declO g).2.1.length:=by omega
  have hm:=getD_mem' [] (declO g).2.1 _ hj
  refine ⟨(t3 _ hm).2,?_⟩
  unfold symO
  rw [place_out (t3 _ hm).1,if_neg (by decide),place_at hv hj,if_pos (by omega)]
  omega
end
end Go.Am.D
