/-
  A part of the proof of a law: see the text that states it.
-/
import Derived.Test.YtggaihkjnomflaaGreatDoorPG
import Derived.Test.YtggaihkjnomflaaGreatDoorVd3
import Derived.Test.YtggaihkjnomflaaGreatDoorVcL
import Derived.Test.YtggaihkjnomflaaGreatDoorZI
set_option linter.all false
namespace Go.Am.N
open Go Go.Am.Pr Go.Am.N.L
set_option maxRecDepth 100000
theorem rplace_ev (l:List qT0) (s:List Int) (hl:l.length≤1000000):E 29 [.tv [] qt9 l,.tv [] .str s] [] (iv (placeK l s)) []:=by
 refine ev_of (vc29 l s _ ?_)
 refine ⟨fun i=>∃ n:Nat,i=n∧n≤l.length∧(l.take n).any (fun x=>decide (x=s))=false,fun i=>(l.length-i).toNat,⟨0,rfl,by omega,rfl⟩,?_⟩
 rintro i ⟨n,rfl,hn,ha⟩
 refine ⟨fun h=>?_,fun h=>?_⟩
 ·(simp only [decide_eq_true_eq,decide_eq_false_iff_not,Bool.not_eq_true',Bool.not_eq_false'] at h)
  have hn':n<l.length:=by omega
  rw [Int.toNat_natCast]
  refine ⟨⟨by omega⟩,fun hb=>⟨tvI ?_,rfl⟩,fun hb=>⟨⟨by omega⟩,⟨n+1,rfl,by omega,?_⟩,⟨by ((try dsimp only);omega)⟩⟩⟩
  ·exact (findI_hit (d:=[]) hn' ha hb).symm
  ·rw [take_snoc ([]:List Int) hn',any_snoc,ha,hb];rfl
 ·(simp only [decide_eq_true_eq,decide_eq_false_iff_not,Bool.not_eq_true',Bool.not_eq_false'] at h)
  rw [List.take_of_length_le (by omega)] at ha
  exact ⟨tvI (findI_no ha).symm,rfl⟩
theorem place_iff {l:List qT0} {n:List Int}:0≤placeK l n↔n∈l:=by
 refine ⟨fun h=>?_,place_in⟩
 obtain ⟨k,k1,_,k3⟩:=place_mem h
 rw [← k3];exact getD_mem' [] l k k1
theorem rlevel_ev (g:Gr) (n:List Int) (hl:g.2.2.1.length≤1000000) (hn:∀ x∈g.2.2.1,x.2.1.length≤1000000):E 30 [.tv [] tGr g,sv n] [] (iv (levK g.2.2.1 n)) []:=by
 obtain ⟨tk,sk,lv,st,rl,⟨⟩⟩:=g
 dsimp only at hl hn ⊢
 refine ev_of (vc30 tk sk lv st rl n _ ?_)
 refine ⟨fun z=>∃ k:Nat,z=k∧k≤lv.length∧(lv.take k).any (fun x:Lv=>decide (n∈x.2.1))=false,fun z=>((lv.length:Int)-z).toNat,⟨0,rfl,by omega,rfl⟩,?_⟩
 rintro z ⟨k,rfl,hk,hv⟩
 refine ⟨fun h=>?_,fun h=>?_⟩
 ·(simp only [decide_eq_true_eq,decide_eq_false_iff_not,Bool.not_eq_true',Bool.not_eq_false'] at h)
  have hk':k<lv.length:=by omega
  rw [Int.toNat_natCast]
  refine ⟨⟨by omega⟩,_,⟨rplace_ev (lv.getD k lv0).2.1 n (hn _ (getD_mem' _ lv _ hk'))⟩,fun h2=>⟨⟨by omega⟩,tvI ?_,rfl⟩,fun h2=>⟨⟨by omega⟩,⟨k+1,by omega,by omega,?_⟩,⟨by ((try dsimp only);omega)⟩⟩⟩
  ·(simp only [decide_eq_true_eq,decide_eq_false_iff_not,Bool.not_eq_true',Bool.not_eq_false'] at h2)
   unfold levK
   rw [findI_hit (d:=lv0) hk' hv (decide_eq_true (place_iff.1 h2))];omega
  ·(simp only [decide_eq_true_eq,decide_eq_false_iff_not,Bool.not_eq_true',Bool.not_eq_false'] at h2)
   rw [take_snoc lv0 hk',any_snoc,hv,decide_eq_false fun q=>h2 (place_iff.2 q)];rfl
 ·(simp only [decide_eq_true_eq,decide_eq_false_iff_not,Bool.not_eq_true',Bool.not_eq_false'] at h)
  rw [List.take_of_length_le (by omega)] at hv
  refine ⟨tvI ?_,rfl⟩
  unfold levK
  rw [findI_no hv];rfl
theorem rsym_ev {p:Pl} (h:PlB p) (n:List Int):E 20 [.tv [] tPl p,sv n] [] (iv (symO p n)) []:=by
 have h1:=h.t
 have h2:=h.v
 obtain ⟨a,b,c,d,e,f,⟨⟩⟩:=p
 dsimp only at h1 h2
 have e1:=rplace_ev a n (by omega)
 have e2:=rplace_ev b n (by omega)
 have b1:-1≤placeK b n∧placeK b n<b.length:=findI_bd _ b
 refine ev_of (vc20 a b c d e f n _ ⟨_,⟨e1⟩,fun q=>⟨tvI ?_,rfl⟩,fun q=>⟨_,⟨e2⟩,fun q2=>⟨⟨by omega⟩,tvI ?_,rfl⟩,fun q2=>⟨tvI ?_,rfl⟩⟩⟩)
 ·(simp only [decide_eq_true_eq,decide_eq_false_iff_not,Bool.not_eq_true',Bool.not_eq_false'] at q);unfold symO;dsimp only;rw [if_pos q]
 ·(simp only [decide_eq_true_eq,decide_eq_false_iff_not,Bool.not_eq_true',Bool.not_eq_false'] at q q2);unfold symO;dsimp only;rw [if_neg q,if_pos q2]
 ·(simp only [decide_eq_true_eq,decide_eq_false_iff_not,Bool.not_eq_true',Bool.not_eq_false'] at q q2);unfold symO;dsimp only;rw [if_neg q,if_neg q2]
theorem ints_ev (l:List Int) (hl:l.length≤1000000):E 32 [.tv [] qt11 l,.tv [] qt11 l] [] (bv true) []:=by
 refine ev_of (vc32 l l _ ⟨fun h=>by (simp only [decide_eq_true_eq,decide_eq_false_iff_not,Bool.not_eq_true',Bool.not_eq_false'] at h);exact (h rfl).elim,fun _=>?_⟩)
 refine ⟨fun z=>∃ k:Nat,z=(k:Int)∧k≤l.length,fun z=>l.length-z.toNat,⟨0,rfl,Nat.zero_le _⟩,?_⟩
 rintro z ⟨k,rfl,hk⟩
 refine ⟨fun h=>⟨⟨?_⟩,⟨?_⟩,fun q=>by simp at q,fun _=>⟨⟨?_⟩,⟨k+1,rfl,?_⟩,⟨?_⟩⟩⟩,fun h=>⟨rfl,rfl⟩⟩
 all_goals ((simp only [decide_eq_true_eq,decide_eq_false_iff_not,Bool.not_eq_true',Bool.not_eq_false'] at h);(try simp only [Int.toNat_natCast]);(try omega))
structure PlF (p:Pl):Prop where
 t:p.1.length≤1000000
 v:p.2.1.length≤1000000
 r:p.2.2.1.length≤1000000
 rl:∀ x∈p.2.2.1,x.2.1.length≤1000000
 l:p.2.2.2.1.length≤1000000
 a:p.2.2.2.2.1.length≤1000000
 c:p.2.2.2.2.2.1.length≤1000000
theorem psame_ev {p:Pl} (h:PlF p):E 9 [.tv [] tPl p,.tv [] tPl p] [] (bv true) []:=by
 obtain ⟨h1,h2,h3,h4,h5,h6,h7⟩:=h
 obtain ⟨a,b,c,d,e,f,⟨⟩⟩:=p
 dsimp only at h1 h2 h3 h4 h5 h6 h7
 refine ev_of (vc9 a b c d e f a b c d e f _ ⟨true,⟨texts_ev a h1⟩,fun q=>absurd q (by decide),fun _=>⟨true,⟨texts_ev b h2⟩,fun q=>absurd q (by decide),fun _=>⟨true,⟨texts_ev f h7⟩,fun q=>absurd q (by decide),fun _=>⟨true,⟨ints_ev d h5⟩,fun q=>absurd q (by decide),fun _=>⟨true,⟨ints_ev e h6⟩,fun q=>absurd q (by decide),fun _=>⟨fun q=>by (simp only [decide_eq_true_eq,decide_eq_false_iff_not,Bool.not_eq_true',Bool.not_eq_false'] at q);exact (q rfl).elim,fun _=>?_⟩⟩⟩⟩⟩⟩)
 refine ⟨fun z=>∃ k:Nat,z=(k:Int)∧k≤c.length,fun z=>c.length-z.toNat,⟨0,rfl,Nat.zero_le _⟩,?_⟩
 rintro z ⟨k,rfl,hk⟩
 refine ⟨fun q=>?_,fun _=>⟨rfl,rfl⟩⟩
 (simp only [decide_eq_true_eq,decide_eq_false_iff_not,Bool.not_eq_true',Bool.not_eq_false'] at q)
 have hk':k<c.length:=by omega
 refine ⟨⟨by omega⟩,⟨by omega⟩,fun q=>by simp at q,fun _=>⟨⟨by omega⟩,⟨by omega⟩,fun q=>by simp at q,fun _=>⟨⟨by omega⟩,⟨by omega⟩,true,⟨ints_ev _ ?_⟩,fun q=>absurd q (by decide),fun _=>⟨⟨by omega⟩,⟨k+1,rfl,by omega⟩,⟨by simp only [Int.toNat_natCast];omega⟩⟩⟩⟩⟩
 rw [Int.toNat_natCast]
 exact h4 _ (getD_mem' pd0 c k hk')
theorem rof_ev (g:Gr) (hg:Few g) (hB:Bd g 1048576) (hY:ByG g):E 8 [.tv [] tGr g] [] (ofA (ofO g)) []:=by
  have R:=rright_ev g hB hY
  have lev:=fun n=>rlevel_ev g n (by have:=hg.lv;omega) hg.lvs
  obtain ⟨hb,hl⟩:=declB hg
  have hbt:=hb.t
  have hbv:=hb.v
  have f1:=hg.tk
  have f5:=hg.lv
  have f7:=hg.rl
  have f8:=hg.rls
  have SY:=fun (rs:List Pd) (D A:List Int) (F:List qT0) n=>rsym_ev (p:=((declO g).1,((declO g).2.1,(rs,(D,(A,(F,()))))))) ⟨hbt,hbv⟩ n
  have hSY:∀ (rs:List Pd) (D A:List Int) (F:List qT0) n,symO ((declO g).1,((declO g).2.1,(rs,(D,(A,(F,())))))) n=symO (declO g) n:=fun _ _ _ _ _=>rfl
  simp only [hSY] at SY
  have hoo:ofO g=ofO g:=rfl
  conv at hoo=>rhs;unfold ofO unkO
  have hbr:∀ r,badR g.2.2.1 (declO g) r=badR g.2.2.1 (declO g) r:=fun r=>rfl
  conv at hbr=>intro r;rhs;unfold badR
  have hpl:planP g (declO g)=planP g (declO g):=rfl
  conv at hpl=>rhs;unfold planP rulesP
  have hpr:∀ r,prodO g.2.2.1 (declO g) r=(symO (declO g) r.1,(r.2.1.map (symO (declO g)),((if r.2.2.1≠[] then levK g.2.2.1 r.2.2.1 else lastV (declO g) r.2.1),()))):=fun r=>rfl
  have hlast:=lastV_snoc (declO g)
  have hl0:lastV (declO g) []=0:=rfl
  have htt:∀ x,termO (declO g) x=(decide (0≤x)&&decide (x<(declO g).1.length)):=fun x=>rfl
  have hvl:=varsO_len g.2.2.2.2.1
  have hac:accO (declO g)=((declO g).1.length:Int)+((declO g).2.1.length:Int):=rfl
  have hd1:(declO g).1=endT::g.1.map (·.1):=rfl
  have hd2:(declO g).2.1=varsO g.2.2.2.2.1:=rfl
  have hd3:(declO g).2.2.2.1=(0:Int)::g.1.map (fun t=>levK g.2.2.1 t.1):=rfl
  have hd4:(declO g).2.2.2.2.1=(0:Int)::g.2.2.1.map (·.1):=rfl
  have hd5:(declO g).2.2.2.2.2.1=[]::g.2.2.2.2.1.map (·.2.2.2.1):=rfl
  have hS0:=fun n=>symO (declO g) n
  rw [hoo]
  clear hoo hb hg hB hY hSY hS0
  generalize hB:badR g.2.2.1 (declO g)=B at hbr ⊢
  generalize hF:prodO g.2.2.1 (declO g)=F at hpr hpl
  generalize planP g (declO g)=PP' at hpl ⊢
  generalize hS:symO (declO g)=S at SY hbr hpr hpl hlast
  generalize hV:lastV (declO g)=V at hpr hlast hl0
  generalize hT:termO (declO g)=T at hlast htt
  generalize accO (declO g)=A0 at hpl hac
  generalize rightO g=R0 at R ⊢
  clear hB hF hS hV hT
  generalize declO g=p0 at *
  obtain ⟨pt,pv,pr,pd,pa,pf,⟨⟩⟩:=p0
  obtain ⟨tk,sk,lv,st,rl,⟨⟩⟩:=g
  dsimp only at f1 f5 f7 f8 hpl hbr hpr hlast htt hvl hac hd1 hd2 hd3 hd4 hd5 hbt hbv hl lev SY ⊢
  have hbn:1000000<bigN:=by decide
  refine ev_of (vc8 tk sk lv st rl _ ⟨_,⟨R⟩,fun q=>?_,fun q=>?_⟩)
  · (simp only [decide_eq_true_eq,decide_eq_false_iff_not,Bool.not_eq_true',Bool.not_eq_false'] at q);rw [if_pos q];exact ⟨rfl,rfl⟩
  (simp only [decide_eq_true_eq,decide_eq_false_iff_not,Bool.not_eq_true',Bool.not_eq_false'] at q)
  rw [if_neg (by rw [q];decide)]
  refine ⟨fun z a b c d e f=>∃ k:Nat,z=k∧k≤rl.length∧a=[endT]∧b=varsO (rl.take k)∧c=[]∧d=[0]∧e=[0]∧f=[]::(rl.take k).map (·.2.2.2.1),fun z _ _ _ _ _ _=>((rl.length:Int)-z).toNat,⟨0,rfl,by omega,rfl,rfl,rfl,rfl,rfl,rfl⟩,?_⟩
  rintro z a b c d e f ⟨k,rfl,hk,rfl,rfl,rfl,rfl,rfl,rfl⟩
  have hvk:=hvl k hk
  refine ⟨fun h=>?_,fun h=>?_⟩
  · (simp only [decide_eq_true_eq,decide_eq_false_iff_not,Bool.not_eq_true',Bool.not_eq_false'] at h)
    have hk':k<rl.length:=by omega
    rw [Int.toNat_natCast]
    refine ⟨⟨by omega⟩,_,⟨rplace_ev _ _ (by omega)⟩,fun h2=>⟨⟨by omega⟩,⟨?_⟩,⟨by omega⟩,⟨?_⟩,⟨by omega⟩,⟨rfl⟩,⟨k+1,by omega,by omega,rfl,?_,rfl,rfl,rfl,?_⟩,⟨by ((try dsimp only);omega)⟩⟩,fun h2=>⟨⟨by omega⟩,⟨?_⟩,⟨by omega⟩,⟨rfl⟩,⟨k+1,by omega,by omega,rfl,?_,rfl,rfl,rfl,?_⟩,⟨by ((try dsimp only);omega)⟩⟩⟩
    · simp only [List.length_cons,List.length_nil];omega
    · simp only [List.length_cons,List.length_map,List.length_take,List.length_nil];omega
    · (simp only [decide_eq_true_eq,decide_eq_false_iff_not,Bool.not_eq_true',Bool.not_eq_false'] at h2)
      have h2:placeK (varsO (rl.take k)) (rl.getD k rl0).1<0:=h2
      rw [take_snoc rl0 hk',varsO_snoc,if_neg fun q=>by have:=place_in q;omega]
    · rw [take_snoc rl0 hk',List.map_append];rfl
    · simp only [List.length_cons,List.length_map,List.length_take,List.length_nil];omega
    · (simp only [decide_eq_true_eq,decide_eq_false_iff_not,Bool.not_eq_true',Bool.not_eq_false'] at h2)
      have h2:¬ placeK (varsO (rl.take k)) (rl.getD k rl0).1<0:=h2
      rw [take_snoc rl0 hk',varsO_snoc,if_pos (place_iff.1 (by omega))]
    · rw [take_snoc rl0 hk',List.map_append];rfl
  (simp only [decide_eq_true_eq,decide_eq_false_iff_not,Bool.not_eq_true',Bool.not_eq_false'] at h)
  rw [List.take_of_length_le (show rl.length≤k by omega)] at hvk ⊢
  rw [← hd2,← hd5]
  rw [← hd2] at hvk
  replace hvk:pv.length≤rl.length:=by omega
  clear h hk hvl k
  refine ⟨fun z a b c d e f=>∃ k:Nat,z=k∧k≤tk.length∧(tk.take k).any (fun t:Tk=>decide (t.1∈pv))=false∧a=endT::(tk.take k).map (·.1)∧b=pv∧c=[]∧d=(0:Int)::(tk.take k).map (fun t=>levK lv t.1)∧e=[0]∧f=pf,fun z _ _ _ _ _ _=>((tk.length:Int)-z).toNat,⟨0,rfl,by omega,rfl,rfl,rfl,rfl,rfl,rfl,rfl⟩,?_⟩
  rintro z a b c d e f ⟨k,rfl,hk,hany,rfl,rfl,rfl,rfl,rfl,rfl⟩
  refine ⟨fun h=>?_,fun h=>?_⟩
  · (simp only [decide_eq_true_eq,decide_eq_false_iff_not,Bool.not_eq_true',Bool.not_eq_false'] at h)
    have hk':k<tk.length:=by omega
    rw [Int.toNat_natCast]
    refine ⟨⟨by omega⟩,_,⟨rplace_ev _ _ (by omega)⟩,fun h2=>⟨⟨by omega⟩,?_⟩,fun h2=>⟨⟨by omega⟩,⟨?_⟩,⟨by omega⟩,_,⟨lev _⟩,⟨?_⟩,⟨by omega⟩,⟨rfl⟩,⟨k+1,by omega,by omega,?_,?_,rfl,rfl,?_,rfl,rfl⟩,⟨by ((try dsimp only);omega)⟩⟩⟩
    · (simp only [decide_eq_true_eq,decide_eq_false_iff_not,Bool.not_eq_true',Bool.not_eq_false'] at h2)
      rw [findI_hit (d:=tk0) hk' hany (decide_eq_true (place_iff.1 h2)),if_pos (by omega),Int.toNat_natCast]
      exact ⟨rfl,rfl⟩
    · simp only [List.length_cons,List.length_map,List.length_take,List.length_nil];omega
    · simp only [List.length_cons,List.length_map,List.length_take,List.length_nil];omega
    · (simp only [decide_eq_true_eq,decide_eq_false_iff_not,Bool.not_eq_true',Bool.not_eq_false'] at h2)
      rw [take_snoc tk0 hk',any_snoc,hany,decide_eq_false fun q=>h2 (place_iff.2 q)];rfl
    · rw [take_snoc tk0 hk',List.map_append];rfl
    · rw [take_snoc tk0 hk',List.map_append];rfl
  (simp only [decide_eq_true_eq,decide_eq_false_iff_not,Bool.not_eq_true',Bool.not_eq_false'] at h)
  rw [List.take_of_length_le (show tk.length≤k by omega)] at hany ⊢
  rw [findI_no hany,if_neg (by decide),← hd1,← hd3]
  clear h hk hany k
  refine ⟨fun z a1 b1 c1 d1 e1 f1=>∃ k:Nat,z=k∧k≤lv.length∧a1=pt∧b1=b∧c1=[]∧d1=pd∧e1=(0:Int)::(lv.take k).map (·.1)∧f1=f,fun z _ _ _ _ _ _=>((lv.length:Int)-z).toNat,⟨0,rfl,by omega,rfl,rfl,rfl,rfl,rfl,rfl⟩,?_⟩
  rintro z a b c d e f ⟨k,rfl,hk,rfl,rfl,rfl,rfl,rfl,rfl⟩
  refine ⟨fun h=>?_,fun h=>?_⟩
  · (simp only [decide_eq_true_eq,decide_eq_false_iff_not,Bool.not_eq_true',Bool.not_eq_false'] at h)
    have hk':k<lv.length:=by omega
    rw [Int.toNat_natCast]
    refine ⟨⟨by omega⟩,⟨?_⟩,⟨by omega⟩,⟨rfl⟩,⟨k+1,by omega,by omega,rfl,rfl,rfl,rfl,?_,rfl⟩,⟨by ((try dsimp only);omega)⟩⟩
    · simp only [List.length_cons,List.length_map,List.length_take,List.length_nil];omega
    · rw [take_snoc lv0 hk',List.map_append];rfl
  (simp only [decide_eq_true_eq,decide_eq_false_iff_not,Bool.not_eq_true',Bool.not_eq_false'] at h)
  rw [List.take_of_length_le (show lv.length≤k by omega),← hd4]
  clear h hk k
  refine ⟨⟨by omega⟩,_,⟨SY _ _ _ _ _⟩,?_⟩
  rw [← hac]
  refine ⟨fun z a' b' c' d' e' f'=>∃ k:Nat,z=k∧k≤rl.length∧(rl.take k).findSome? B=none∧a'=a∧b'=b∧c'=(A0,([S st],((0:Int),())))::(rl.take k).map F∧d'=d∧e'=pa∧f'=f,fun z _ _ _ _ _ _=>((rl.length:Int)-z).toNat,⟨0,rfl,by omega,rfl,rfl,rfl,rfl,rfl,rfl,rfl⟩,?_⟩
  rintro z a' b' c' d' e' f' ⟨k,rfl,hk,hn,rfl,rfl,rfl,rfl,rfl,rfl⟩
  refine ⟨fun h=>?_,fun h=>?_⟩
  · (simp only [decide_eq_true_eq,decide_eq_false_iff_not,Bool.not_eq_true',Bool.not_eq_false'] at h)
    have hk':k<rl.length:=by omega
    rw [Int.toNat_natCast]
    have h8:(rl.getD k rl0).2.1.length≤10000:=(f8 _ (getD_mem' rl0 rl k hk')).2.1
    have hb:=hbr (rl.getD k rl0)
    have hp:=hpr (rl.getD k rl0)
    have hit:=fun n (e:B (rl.getD k rl0)=some n)=>findSome_hit hk' hn e
    have nxt:=fun (e:B (rl.getD k rl0)=none)=>findSome_snoc B (rl.take k) (rl.getD k rl0) hn e
    have tks:=take_snoc rl0 hk'
    have hgx:rl.getD k rl0=rl.getD k ([],([],([],([],())))):=rfl
    rw [hgx] at *
    generalize rl.getD k ([],([],([],([],()))))=x at *
    obtain ⟨L,ns,prc,ac,⟨⟩⟩:=x
    dsimp only at h8 hb hp ⊢
    refine ⟨⟨by omega⟩,_,⟨SY _ _ _ _ _⟩,?_⟩
    refine ⟨fun z y l v x0 x1 x2 x3 a1 b1 c1 d1 e1 f1=>∃ j:Nat,z=j∧j≤ns.length∧(ns.take j).any (fun n=>decide (S n<0))=false∧y=S L∧l=(ns.take j).map S∧v=V (ns.take j)∧x0=L∧x1=ns∧x2=prc∧x3=ac∧a1=a'∧b1=b'∧c1=(A0,([S st],((0:Int),())))::(rl.take k).map F∧d1=d'∧e1=e'∧f1=f',fun z _ _ _ _ _ _ _ _ _ _ _ _ _=>((ns.length:Int)-z).toNat,⟨0,rfl,by omega,rfl,rfl,rfl,hl0.symm,rfl,rfl,rfl,rfl,rfl,rfl,rfl,rfl,rfl,rfl⟩,?_⟩
    rintro z y l v x0 x1 x2 x3 a1 b1 c1 d1 e1 f1 ⟨j,rfl,hj,hna,rfl,rfl,rfl,rfl,rfl,rfl,rfl,rfl,rfl,rfl,rfl,rfl,rfl⟩
    refine ⟨fun q1=>?_,fun q1=>?_⟩
    · (simp only [decide_eq_true_eq,decide_eq_false_iff_not,Bool.not_eq_true',Bool.not_eq_false'] at q1)
      have hj':j<x1.length:=by omega
      rw [Int.toNat_natCast]
      have hls:=hlast (x1.take j) (x1.getD j [])
      have ht:=htt (S (x1.getD j []))
      refine ⟨⟨by omega⟩,_,⟨SY _ _ _ _ _⟩,fun q2=>⟨⟨by omega⟩,?_⟩,fun q2=>⟨⟨?_⟩,fun q3=>⟨⟨?_⟩,⟨by omega⟩,⟨rfl⟩,⟨j+1,by omega,by omega,?_,rfl,?_,?_,rfl,rfl,rfl,rfl,rfl,rfl,rfl,rfl,rfl,rfl⟩,⟨by ((try dsimp only);omega)⟩⟩,fun q3=>⟨⟨by omega⟩,⟨rfl⟩,⟨j+1,by omega,by omega,?_,rfl,?_,?_,rfl,rfl,rfl,rfl,rfl,rfl,rfl,rfl,rfl,rfl⟩,⟨by ((try dsimp only);omega)⟩⟩⟩⟩
      · rw [findI_hit (d:=[]) hj' hna q2,if_pos (by omega),Int.toNat_natCast] at hb
        rw [hit _ hb]
        exact ⟨rfl,rfl⟩
      · simp only [List.length_cons,List.length_map,List.length_take,List.length_nil];omega
      · (simp only [decide_eq_true_eq,decide_eq_false_iff_not,Bool.not_eq_true',Bool.not_eq_false'] at q2 q3);omega
      · rw [take_snoc ([]:List Int) hj',any_snoc,hna];exact q2
      · rw [take_snoc ([]:List Int) hj',List.map_append];rfl
      · (simp only [decide_eq_true_eq,decide_eq_false_iff_not,Bool.not_eq_true',Bool.not_eq_false'] at q2 q3)
        rw [take_snoc ([]:List Int) hj',hls,if_pos (by rw [ht,decide_eq_true (by omega),decide_eq_true q3];rfl)]
      · rw [take_snoc ([]:List Int) hj',any_snoc,hna];exact q2
      · rw [take_snoc ([]:List Int) hj',List.map_append];rfl
      · (simp only [decide_eq_true_eq,decide_eq_false_iff_not,Bool.not_eq_true',Bool.not_eq_false'] at q2 q3)
        rw [take_snoc ([]:List Int) hj',hls,if_neg (by rw [ht,decide_eq_false q3,Bool.and_false];decide)]
    · (simp only [decide_eq_true_eq,decide_eq_false_iff_not,Bool.not_eq_true',Bool.not_eq_false'] at q1)
      rw [List.take_of_length_le (show x1.length≤j by omega)] at hna ⊢
      rw [findI_no hna,if_neg (by decide)] at hb
      refine ⟨fun q2=>⟨_,⟨lev _⟩,fun q3=>?_,fun q3=>⟨⟨?_⟩,⟨by omega⟩,⟨rfl⟩,⟨k+1,by omega,by omega,?_,rfl,rfl,?_,rfl,rfl,rfl⟩,⟨by ((try dsimp only);omega)⟩⟩⟩,fun q2=>⟨⟨?_⟩,⟨by omega⟩,⟨rfl⟩,⟨k+1,by omega,by omega,?_,rfl,rfl,?_,rfl,rfl,rfl⟩,⟨by ((try dsimp only);omega)⟩⟩⟩
      · (simp only [decide_eq_true_eq,decide_eq_false_iff_not,Bool.not_eq_true',Bool.not_eq_false'] at q2 q3)
        rw [if_pos ⟨q2,q3⟩] at hb
        rw [hit _ hb]
        exact ⟨rfl,rfl⟩
      · simp only [List.length_cons,List.length_map,List.length_take,List.length_nil];omega
      · (simp only [decide_eq_true_eq,decide_eq_false_iff_not,Bool.not_eq_true',Bool.not_eq_false'] at q2 q3)
        rw [if_neg fun q=>q3 q.2] at hb
        rw [tks];exact nxt hb
      · (simp only [decide_eq_true_eq,decide_eq_false_iff_not,Bool.not_eq_true',Bool.not_eq_false'] at q2 q3)
        rw [tks,List.map_append,List.map_singleton,hp,if_pos q2];rfl
      · simp only [List.length_cons,List.length_map,List.length_take,List.length_nil];omega
      · (simp only [decide_eq_true_eq,decide_eq_false_iff_not,Bool.not_eq_true',Bool.not_eq_false'] at q2)
        rw [if_neg fun q=>q.1 q2] at hb
        rw [tks];exact nxt hb
      · (simp only [decide_eq_true_eq,decide_eq_false_iff_not,Bool.not_eq_true',Bool.not_eq_false'] at q2)
        rw [tks,List.map_append,List.map_singleton,hp,if_neg (not_not_intro q2)];rfl
  (simp only [decide_eq_true_eq,decide_eq_false_iff_not,Bool.not_eq_true',Bool.not_eq_false'] at h)
  rw [List.take_of_length_le (show rl.length≤k by omega)] at hn ⊢
  rw [hn]
  refine ⟨_,⟨rplace_ev _ _ (by omega)⟩,fun q2=>?_,fun q2=>?_⟩
  · (simp only [decide_eq_true_eq,decide_eq_false_iff_not,Bool.not_eq_true',Bool.not_eq_false'] at q2)
    rw [decide_eq_false fun q=>by have:=place_in q;omega,if_pos (by rfl)]
    exact ⟨rfl,rfl⟩
  · (simp only [decide_eq_true_eq,decide_eq_false_iff_not,Bool.not_eq_true',Bool.not_eq_false'] at q2)
    rw [decide_eq_true (place_iff.1 (by omega)),hpl]
    exact ⟨rfl,rfl⟩
end Go.Am.N
