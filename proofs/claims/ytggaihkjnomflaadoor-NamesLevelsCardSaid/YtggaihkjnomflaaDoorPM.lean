/-
  A part of the proof of a law: see the text that states it.
-/
import Derived.Test.YtggaihkjnomflaaDoorPJ
import Derived.Test.YtggaihkjnomflaaDoorPG
import Derived.Test.YtggaihkjnomflaaDoorAm4
import Derived.Test.YtggaihkjnomflaaDoorVd2
set_option linter.all false
namespace Go.Am.D
open Go Go.Am.Pr Go.Am.D.L
open Go.Am.G (GoodG toks vrs lvs tSm Sml SmOK gramOf gramOf_good isBy)
set_option maxRecDepth 100000
theorem smOK {s:Sml} (hi:InR tSm s) (h:s.2.2.1.length≤20∧s.2.2.2.2.2.1.length≤5∧∀ x∈s.2.2.2.1,x.length≤8):SmOK s:=by
 obtain ⟨x0,x1,a2,a3,a4,a5,a6,_⟩:=s
 simp only [InR] at hi
 obtain ⟨i0,i1,⟨_,i2⟩,⟨_,i3⟩,⟨_,i4⟩,⟨_,i5⟩,⟨_,i6⟩,_⟩:=hi
 have mem:∀ l:List Int,(∀ i,i<l.length→(Lit.int .u8 (l.getD i 0)).wf=true)→∀ x∈l,isBy x:=fun l h x hx=>by
  obtain ⟨i,hi,rfl⟩:=List.mem_iff_getElem.1 hx
  have:=h i hi
  rw [List.getD_eq_getElem?_getD,List.getElem?_eq_getElem hi] at this
  exact u8_wf this
 refine ⟨u8_wf i0,u8_wf i1,mem _ i2,fun l hl=>?_,mem _ i4,mem _ i5,mem _ i6,h.1,h.2.1,h.2.2⟩
 obtain ⟨i,hi,rfl⟩:=List.mem_iff_getElem.1 hl
 have:=(i3 i hi).2
 rw [List.getD_eq_getElem?_getD,List.getElem?_eq_getElem hi] at this
 exact mem _ this
theorem sm_len {s:Sml} (hi:InR tSm s):s.2.2.2.1.length≤9223372036854775807:=by
 obtain ⟨x0,x1,a2,a3,a4,a5,a6,_⟩:=s
 simp only [InR] at hi
 have:=hi.2.2.2.1.1
 unfold maxLen at this
 exact this
theorem fewS_of {s:Sml} {b:Int} (hb:b≤8) (h:fewS s 20 b=true):s.2.2.1.length≤20∧s.2.2.2.2.2.1.length≤5∧∀ x∈s.2.2.2.1,x.length≤8:=by
 unfold fewS at h
 simp only [Bool.and_eq_true,decide_eq_true_eq,List.all_eq_true] at h
 exact ⟨by omega,h.2.1,fun x hx=>by have:=h.2.2 x hx;omega⟩
theorem mem_take_snoc {l:List Lv} {k:Nat} (hk:k<l.length) (n:List Int):n∈(l.take (k+1)).flatMap (·.2.1)↔n∈(l.take k).flatMap (·.2.1)∨n∈(l.getD k lv0).2.1:=by
 rw [take_snoc lv0 hk,List.flatMap_append,List.mem_append]
 simp
open Classical in
theorem levels (s:Sml) (hi:InR tSm s):E 5 [.tv [] tSm s] [] (bv true) []:=by
  have hf:=fewS_ev s 20 8 (sm_len hi)
  cases hb:fewS s 20 8 with
  | false =>
    rw [hb] at hf
    obtain ⟨x0,x1,a2,a3,a4,a5,a6,⟨⟩⟩:=s
    exact ev_of (vc5 x0 x1 a2 a3 a4 a5 a6 _ ⟨true,⟨awake8_ev⟩,_,⟨hf⟩,fun _=>⟨rfl,rfl⟩,fun q=>absurd q (by decide)⟩)
  | true =>
  rw [hb] at hf
  have hok:=smOK hi (fewS_of (b:=8) (by decide) hb)
  have hg:=gram_is hok
  obtain ⟨t,l,r,e,h⟩:=gramOf_good s hok
  rw [e] at hg
  clear e hok hb hi
  obtain ⟨x0,x1,a2,a3,a4,a5,a6,⟨⟩⟩:=s
  refine ev_of (vc5 x0 x1 a2 a3 a4 a5 a6 _ ⟨true,⟨awake8_ev⟩,_,⟨hf⟩,fun _=>⟨rfl,rfl⟩,fun q=>?_⟩)
  clear hf q
  have hfw:=few_small h
  have ho:=of_ev _ hfw
  rw [good_small h] at ho
  have hl5:=h.ln
  have ht5:=h.tn
  have hr24:=h.rn.2
  have hnd:=h.lnd
  have hdl:∀ j,(declO (smG t l r)).2.2.2.1.getD (j+1) 0=if j<t.length then levK l (t.getD j tk0).1 else 0:=fun j=>by
    show (t.map (fun x=>levK l x.1)).getD j 0=_
    rw [List.getD_eq_getElem?_getD,List.getElem?_map]
    by_cases hj:j<t.length
    · rw [if_pos hj,List.getD_eq_getElem?_getD,List.getElem?_eq_getElem hj];rfl
    · rw [if_neg hj,List.getElem?_eq_none (by omega)];rfl
  have c1:(planP (smG t l r) (declO (smG t l r))).2.2.1.length=r.length+1:=by
    show (rulesP _ _).length=_
    unfold rulesP;rw [List.length_cons,List.length_map]
  have c2:(declO (smG t l r)).2.2.2.1.length=t.length+1:=by
    show ((0:Int)::t.map _).length=_
    rw [List.length_cons,List.length_map]
  have c3:(declO (smG t l r)).2.2.2.2.1.length=l.length+1:=by
    show ((0:Int)::l.map _).length=_
    rw [List.length_cons,List.length_map]
  have c4:∀ j,j<l.length→(declO (smG t l r)).2.2.2.2.1.getD (j+1) 0=(l.getD j lv0).1:=fun j hj=>by
    show (l.map (·.1)).getD j 0=_
    rw [List.getD_eq_getElem?_getD,List.getElem?_map,List.getD_eq_getElem?_getD,List.getElem?_eq_getElem hj];rfl
  have c5:∀ j,j<r.length→(rulesP (smG t l r) (declO (smG t l r))).getD (j+1) pd0=prodO l (declO (smG t l r)) (r.getD j rl0):=fun j hj=>by
    show (r.map _).getD j _=_
    rw [List.getD_eq_getElem?_getD,List.getElem?_map,List.getD_eq_getElem?_getD,List.getElem?_eq_getElem hj];rfl
  have c6:(declO (smG t l r)).1.length=t.length+1:=by
    show (endT::t.map _).length=_
    rw [List.length_cons,List.length_map]
  have hpr:∀ x,prodO l (declO (smG t l r)) x=(symO (declO (smG t l r)) x.1,(x.2.1.map (symO (declO (smG t l r))),((if x.2.2.1≠[] then levK l x.2.2.1 else lastV (declO (smG t l r)) x.2.1),()))):=fun x=>rfl
  have hla:=lastV_snoc (declO (smG t l r))
  have hl0:lastV (declO (smG t l r)) []=0:=rfl
  have htt:∀ x,termO (declO (smG t l r)) x=(decide (0≤x)&&decide (x<t.length+1)):=fun x=>by unfold termO;rw [c6];rfl
  have hrul:(planP (smG t l r) (declO (smG t l r))).2.2.1=rulesP (smG t l r) (declO (smG t l r)):=rfl
  have hp4:(planP (smG t l r) (declO (smG t l r))).2.2.2.1=(declO (smG t l r)).2.2.2.1:=rfl
  have hp5:(planP (smG t l r) (declO (smG t l r))).2.2.2.2.1=(declO (smG t l r)).2.2.2.2.1:=rfl
  rw [← hrul] at c5
  clear hrul hfw
  generalize planP (smG t l r) (declO (smG t l r))=PP' at *
  generalize hp0:declO (smG t l r)=p0 at *
  rw [← hp4] at c2 hdl hla
  rw [← hp5] at c3 c4
  generalize symO p0=S at *
  generalize termO p0=T at *
  generalize lastV p0=V at *
  clear hp4 hp5 c6 hp0
  obtain ⟨b0,b1,b2,b3,b4,b5,⟨⟩⟩:=PP'
  dsimp only at c1 c2 c3 c4 c5 hdl hla
  refine ⟨t,[],l,[83],r,⟨hg⟩,b0,b1,b2,b3,b4,b5,_,_,⟨ho⟩,fun q=>absurd q (by simp),fun _=>⟨⟨by omega⟩,fun q=>(by (simp only [decide_eq_true_eq,decide_eq_false_iff_not,Bool.not_eq_true',Bool.not_eq_false'] at q);omega),fun _=>⟨⟨by omega⟩,fun q=>(by (simp only [decide_eq_true_eq,decide_eq_false_iff_not,Bool.not_eq_true',Bool.not_eq_false'] at q);omega),fun _=>⟨⟨by omega⟩,fun q=>(by (simp only [decide_eq_true_eq,decide_eq_false_iff_not,Bool.not_eq_true',Bool.not_eq_false'] at q);omega),fun _=>?_⟩⟩⟩⟩
  refine ⟨fun z=>∃ k:Nat,z=k∧k≤t.length,fun z=>((t.length:Int)-z).toNat,⟨0,rfl,by omega⟩,?_⟩
  rintro z ⟨k,rfl,hk⟩
  refine ⟨fun q=>?_,fun q=>?_⟩
  · (simp only [decide_eq_true_eq,decide_eq_false_iff_not,Bool.not_eq_true',Bool.not_eq_false'] at q)
    have hk':k<t.length:=by omega
    have ek:((k:Int)+1).toNat=k+1:=by omega
    have hd:=hdl k
    rw [if_pos hk'] at hd
    have hgn:(t.getD (Int.toNat (k:Int)) (([]:List Int),(([],([],(false,()))),()))).1=(t.getD k tk0).1:=by rw [Int.toNat_natCast]
    generalize (t.getD (Int.toNat (k:Int)) (([]:List Int),(([],([],(false,()))),()))).1=n at hgn ⊢
    rw [← hgn] at hd
    simp only [ek]
    refine ⟨fun w z=>∃ j:Nat,z=j∧j≤l.length∧w=if n∈(l.take j).flatMap (·.2.1) then levK l n else 0,fun _ z=>((l.length:Int)-z).toNat,⟨0,rfl,by omega,by simp⟩,?_⟩
    rintro w z ⟨j,rfl,hj,rfl⟩
    refine ⟨fun q1=>?_,fun q1=>?_⟩
    · (simp only [decide_eq_true_eq,decide_eq_false_iff_not,Bool.not_eq_true',Bool.not_eq_false'] at q1)
      have hj':j<l.length:=by omega
      have hlv:n∈(l.getD j lv0).2.1→levK l n=(j:Int)+1:=fun hn=>levK_at hnd hj' hn
      have hns:(l.getD j lv0).2.1.length≤10:=Nat.le_trans (G.len_le_flat (fun x:Lv=>x.2.1) (getD_mem' lv0 l j hj')) h.lnn
      have mts:=mem_take_snoc hj' n
      have hlj:(l.getD (Int.toNat (j:Int)) ((0:Int),(([]:List qT0),()))).2.1=(l.getD j lv0).2.1:=by rw [Int.toNat_natCast]
      generalize (l.getD (Int.toNat (j:Int)) ((0:Int),(([]:List qT0),()))).2.1=ns at hlj ⊢
      rw [← hlj] at hlv hns mts
      refine ⟨fun w z=>∃ i:Nat,z=i∧i≤ns.length∧w=if n∈(l.take j).flatMap (·.2.1)∨n∈ns.take i then levK l n else 0,fun _ z=>((ns.length:Int)-z).toNat,⟨0,rfl,by omega,by simp⟩,?_⟩
      rintro w z ⟨i,rfl,hi,rfl⟩
      refine ⟨⟨by omega⟩,fun q2=>?_,fun q2=>?_⟩
      · (simp only [decide_eq_true_eq,decide_eq_false_iff_not,Bool.not_eq_true',Bool.not_eq_false'] at q2)
        have hi':i<ns.length:=by omega
        refine ⟨⟨by omega⟩,⟨by omega⟩,⟨by omega⟩,fun q3=>⟨⟨by omega⟩,⟨by omega⟩,⟨by simp⟩,⟨i+1,by omega,by omega,?_⟩,⟨by ((try dsimp only);omega)⟩⟩,fun q3=>⟨⟨by omega⟩,⟨by simp⟩,⟨i+1,by omega,by omega,?_⟩,⟨by ((try dsimp only);omega)⟩⟩⟩
        · (simp only [decide_eq_true_eq,decide_eq_false_iff_not,Bool.not_eq_true',Bool.not_eq_false'] at q3)
          rw [Int.toNat_natCast] at q3
          have hm:n∈ns.take (i+1):=by rw [take_snoc ([]:List Int) hi',q3];simp
          rw [if_pos (.inr hm),hlv (List.mem_of_mem_take hm)]
        · (simp only [decide_eq_true_eq,decide_eq_false_iff_not,Bool.not_eq_true',Bool.not_eq_false'] at q3)
          rw [Int.toNat_natCast] at q3
          have e:(n∈(l.take j).flatMap (·.2.1)∨n∈ns.take (i+1))↔(n∈(l.take j).flatMap (·.2.1)∨n∈ns.take i):=by
            rw [take_snoc ([]:List Int) hi',List.mem_append,List.mem_singleton]
            refine or_congr_right ⟨fun q=>q.elim id fun q=>absurd q.symm q3,.inl⟩
          simp only [e]
      · (simp only [decide_eq_true_eq,decide_eq_false_iff_not,Bool.not_eq_true',Bool.not_eq_false'] at q2)
        rw [List.take_of_length_le (show ns.length≤i by omega)]
        refine ⟨⟨by omega⟩,⟨by simp⟩,⟨j+1,by omega,by omega,?_⟩,⟨by ((try dsimp only);omega)⟩⟩
        simp only [mts]
    · (simp only [decide_eq_true_eq,decide_eq_false_iff_not,Bool.not_eq_true',Bool.not_eq_false'] at q1)
      rw [List.take_of_length_le (show l.length≤j by omega)]
      refine ⟨⟨by omega⟩,⟨by omega⟩,fun q2=>?_,fun q2=>⟨⟨by omega⟩,⟨by simp⟩,⟨k+1,by omega,by omega⟩,⟨by ((try dsimp only);omega)⟩⟩⟩
      (simp only [decide_eq_true_eq,decide_eq_false_iff_not,Bool.not_eq_true',Bool.not_eq_false'] at q2)
      refine absurd ?_ q2
      rw [hd]
      split
      · rfl
      · rename_i hno;exact levK_no hno
  · clear q hk k hdl
    refine ⟨fun z=>∃ k:Nat,z=k∧k≤r.length,fun z=>((r.length:Int)-z).toNat,⟨0,rfl,by omega⟩,?_⟩
    rintro z ⟨k,rfl,hk⟩
    refine ⟨fun q=>?_,fun q=>?_⟩
    · (simp only [decide_eq_true_eq,decide_eq_false_iff_not,Bool.not_eq_true',Bool.not_eq_false'] at q)
      have hk':k<r.length:=by omega
      have ek:((k:Int)+1).toNat=k+1:=by omega
      have hx:=c5 k hk'
      have hm:=getD_mem' rl0 r k hk'
      have hprc:=h.prec _ hm
      have hrl:=h.rlen _ hm
      rw [hpr] at hx
      have g1:b2.getD (Int.toNat ((k:Int)+1)) ((0:Int),(([]:List Int),((0:Int),())))=b2.getD (k+1) pd0:=by rw [ek]
      have g2:r.getD (Int.toNat (k:Int)) ([],([],([],([],()))))=r.getD k rl0:=by rw [Int.toNat_natCast]
      rw [← g1] at hx
      rw [← g2] at hx hprc hrl
      generalize b2.getD (Int.toNat ((k:Int)+1)) ((0:Int),(([]:List Int),((0:Int),())))=bx at hx ⊢
      subst hx
      clear g1 g2
      generalize r.getD (Int.toNat (k:Int)) ([],([],([],([],()))))=x at hprc hrl ⊢
      obtain ⟨L,ns,prc,ac,⟨⟩⟩:=x
      dsimp only at hprc hrl ⊢
      clear hm
      generalize S L=SL
      generalize hLV:(if prc≠[] then levK l prc else V ns)=LV
      refine ⟨⟨by omega⟩,⟨by omega⟩,?_⟩
      refine ⟨fun w z y m v=>∃ i:Nat,z=i∧i≤ns.length∧w=V (ns.take i)∧y=SL∧m=ns.map S∧v=LV,fun _ z _ _ _=>((ns.length:Int)-z).toNat,⟨0,rfl,by omega,by rw [List.take_zero];exact hl0.symm,rfl,rfl,rfl⟩,?_⟩
      rintro w z y m v ⟨i,rfl,hi,rfl,rfl,rfl,rfl⟩
      have hml:(ns.map S).length=ns.length:=List.length_map ..
      refine ⟨fun q1=>?_,fun q1=>?_⟩
      · (simp only [decide_eq_true_eq,decide_eq_false_iff_not,Bool.not_eq_true',Bool.not_eq_false'] at q1)
        have hi':i<ns.length:=by omega
        have e0:∀ m:List Int,m.getD (Int.toNat (i:Int)) 0=m.getD i 0:=fun m=>by rw [Int.toNat_natCast]
        simp only [e0]
        have hgi:(ns.map S).getD i 0=S (ns.getD i []):=by
          rw [List.getD_eq_getElem?_getD,List.getElem?_map,List.getD_eq_getElem?_getD,List.getElem?_eq_getElem hi'];rfl
        simp only [hgi]
        have hls:=hla (ns.take i) (ns.getD i [])
        rw [← take_snoc ([]:List Int) hi'] at hls
        have ht:=htt (S (ns.getD i []))
        refine ⟨⟨by omega⟩,fun q2=>⟨⟨by omega⟩,fun q3=>⟨⟨by omega⟩,⟨?_⟩,⟨by omega⟩,⟨by simp⟩,⟨i+1,by omega,by omega,?_,(by first | trivial | exact rfl | exact ⟨rfl,rfl⟩ | omega),(by first | trivial | exact rfl | exact ⟨rfl,rfl⟩ | omega),(by first | trivial | exact rfl | exact ⟨rfl,rfl⟩ | omega)⟩,⟨by ((try dsimp only);omega)⟩⟩,fun q3=>⟨⟨by omega⟩,⟨by simp⟩,⟨i+1,by omega,by omega,?_,(by first | trivial | exact rfl | exact ⟨rfl,rfl⟩ | omega),(by first | trivial | exact rfl | exact ⟨rfl,rfl⟩ | omega),(by first | trivial | exact rfl | exact ⟨rfl,rfl⟩ | omega)⟩,⟨by ((try dsimp only);omega)⟩⟩⟩,fun q2=>⟨⟨by omega⟩,⟨by simp⟩,⟨i+1,by omega,by omega,?_,(by first | trivial | exact rfl | exact ⟨rfl,rfl⟩ | omega),(by first | trivial | exact rfl | exact ⟨rfl,rfl⟩ | omega),(by first | trivial | exact rfl | exact ⟨rfl,rfl⟩ | omega)⟩,⟨by ((try dsimp only);omega)⟩⟩⟩
        · (simp only [decide_eq_true_eq,decide_eq_false_iff_not,Bool.not_eq_true',Bool.not_eq_false'] at q2 q3);exact ⟨q2,q3⟩
        · (simp only [decide_eq_true_eq,decide_eq_false_iff_not,Bool.not_eq_true',Bool.not_eq_false'] at q2 q3)
          rw [hls,if_pos (by rw [ht,decide_eq_true q2,decide_eq_true (by omega)];rfl)]
        · (simp only [decide_eq_true_eq,decide_eq_false_iff_not,Bool.not_eq_true',Bool.not_eq_false'] at q2 q3)
          rw [hls,if_neg (by rw [ht,decide_eq_false (p:=_<_) (by omega),Bool.and_false];decide)]
        · (simp only [decide_eq_true_eq,decide_eq_false_iff_not,Bool.not_eq_true',Bool.not_eq_false'] at q2)
          rw [hls,if_neg (by rw [ht,decide_eq_false q2,Bool.false_and];decide)]
      · (simp only [decide_eq_true_eq,decide_eq_false_iff_not,Bool.not_eq_true',Bool.not_eq_false'] at q1)
        rw [List.take_of_length_le (show ns.length≤i by omega)]
        refine ⟨fun w z y m v1=>∃ j:Nat,z=j∧j≤l.length∧w=(if prc∈(l.take j).map (fun x=>x.2.1.getD 0 []) then levK l prc else V ns)∧v1=v,fun _ z _ _ _=>((l.length:Int)-z).toNat,⟨0,rfl,by omega,by simp,rfl⟩,?_⟩
        rintro w z y m v ⟨j,rfl,hj,rfl,rfl⟩
        refine ⟨fun q2=>?_,fun q2=>?_⟩
        · (simp only [decide_eq_true_eq,decide_eq_false_iff_not,Bool.not_eq_true',Bool.not_eq_false'] at q2)
          have hj':j<l.length:=by omega
          obtain ⟨s0,ts,es,_,_⟩:=h.hd _ (getD_mem' lv0 l j hj')
          have hlv:prc∈(l.getD j lv0).2.1→levK l prc=(j:Int)+1:=fun hn=>levK_at hnd hj' hn
          have hmm:prc∈(l.take (j+1)).map (fun x=>x.2.1.getD 0 [])↔prc∈(l.take j).map (fun x=>x.2.1.getD 0 [])∨prc=(l.getD j lv0).2.1.getD 0 []:=by
            rw [take_snoc lv0 hj',List.map_append,List.mem_append];simp
          have hlj:(l.getD (Int.toNat (j:Int)) ((0:Int),(([]:List qT0),()))).2.1=(l.getD j lv0).2.1:=by rw [Int.toNat_natCast]
          generalize (l.getD (Int.toNat (j:Int)) ((0:Int),(([]:List qT0),()))).2.1=hl at hlj ⊢
          rw [← hlj] at es hlv hmm
          subst es
          refine ⟨⟨by omega⟩,⟨by omega⟩,⟨by rw [List.length_cons];omega⟩,fun q3=>⟨⟨by omega⟩,⟨by omega⟩,⟨by simp⟩,⟨j+1,by omega,by omega,?_,rfl⟩,⟨by ((try dsimp only);omega)⟩⟩,fun q3=>⟨⟨by omega⟩,⟨by simp⟩,⟨j+1,by omega,by omega,?_,rfl⟩,⟨by ((try dsimp only);omega)⟩⟩⟩
          · (simp only [decide_eq_true_eq,decide_eq_false_iff_not,Bool.not_eq_true',Bool.not_eq_false'] at q3)
            rw [if_pos (hmm.2 (.inr q3)),hlv (by rw [q3];exact List.mem_cons_self ..)]
          · (simp only [decide_eq_true_eq,decide_eq_false_iff_not,Bool.not_eq_true',Bool.not_eq_false'] at q3)
            have e:prc∈(l.take (j+1)).map (fun x=>x.2.1.getD 0 [])↔prc∈(l.take j).map (fun x=>x.2.1.getD 0 []):=hmm.trans ⟨fun q=>q.elim id fun q=>absurd q q3,.inl⟩
            simp only [e]
        · (simp only [decide_eq_true_eq,decide_eq_false_iff_not,Bool.not_eq_true',Bool.not_eq_false'] at q2)
          rw [List.take_of_length_le (show l.length≤j by omega)]
          refine ⟨fun q3=>?_,fun q3=>⟨⟨by omega⟩,⟨by simp⟩,⟨k+1,by omega,by omega⟩,⟨by ((try dsimp only);omega)⟩⟩⟩
          (simp only [decide_eq_true_eq,decide_eq_false_iff_not,Bool.not_eq_true',Bool.not_eq_false'] at q3)
          refine absurd ?_ q3
          rw [← hLV]
          rcases hprc with q4 | ⟨q4,y,hy,hn⟩
          · rw [if_neg (not_not_intro q4),if_neg]
            intro hin
            obtain ⟨y,hy,e⟩:=List.mem_map.1 hin
            obtain ⟨s0,ts,es,hs0,_⟩:=h.hd _ hy
            rw [es] at e
            have e:s0=prc:=e
            exact tok_nm.2.2.2.2.2.2 s0 hs0 (e.trans q4)
          · have hne:prc≠[]:=tok_nm.2.2.2.2.2.2 _ q4
            rw [if_pos hne,if_pos]
            obtain ⟨s0,ts,es,_,hts⟩:=h.hd _ hy
            rw [es] at hn
            refine List.mem_map.2 ⟨y,hy,?_⟩
            rw [es]
            rcases List.mem_cons.1 hn with e | hn
            · exact e.symm
            · exact absurd q4 (tok_nm.2.2.2.2.1 _ (hts _ hn))
    · clear q hk k
      refine ⟨fun z=>∃ k:Nat,z=k∧k≤l.length,fun z=>((l.length:Int)-z).toNat,⟨0,rfl,by omega⟩,?_⟩
      rintro z ⟨k,rfl,hk⟩
      refine ⟨fun q=>?_,fun q=>⟨rfl,rfl⟩⟩
      (simp only [decide_eq_true_eq,decide_eq_false_iff_not,Bool.not_eq_true',Bool.not_eq_false'] at q)
      have hk':k<l.length:=by omega
      have ek:((k:Int)+1).toNat=k+1:=by omega
      simp only [Int.toNat_natCast,ek]
      refine ⟨⟨by omega⟩,⟨by omega⟩,⟨by omega⟩,fun q1=>?_,fun q1=>⟨⟨by omega⟩,⟨by simp⟩,⟨k+1,by omega,by omega⟩,⟨by ((try dsimp only);omega)⟩⟩⟩
      (simp only [decide_eq_true_eq,decide_eq_false_iff_not,Bool.not_eq_true',Bool.not_eq_false'] at q1)
      exact absurd (c4 k hk') q1
end Go.Am.D
