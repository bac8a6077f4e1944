/-
  A part of the proof of a law: see the text that states it.
-/
import Derived.Test.YtggaihkjnomflaaDoorPG
import Derived.Test.YtggaihkjnomflaaDoorZG
import Derived.Test.YtggaihkjnomflaaDoorVcZ
set_option linter.all false
namespace Go.Am.D
open Go Go.Am.Pr Go.Am.D.L
set_option maxRecDepth 100000
theorem inr_mem {t:Ty} {l:List (den t)} (h:InR (.slice t) l):∀ y∈l,InR t y:=by
 intro y hy
 obtain ⟨i,hi,rfl⟩:=List.mem_iff_getElem.1 hy
 have:=h.2 i hi
 rw [List.getD_eq_getElem?_getD,List.getElem?_eq_getElem hi] at this
 exact this
theorem acts_by {g:Gr} (h:InR tGr g):∀ r∈g.2.2.2.2.1,ActB r:=fun r hr=>(inr_mem (t:=tRl) h.2.2.2.2.1 r hr).2.2.2.1.2
theorem GoodP.plB {g:Gr} (h:GoodP g):PlB (planP g (declO g))∧(declO g).1.length≤21∧(declO g).2.1.length≤40:=by
 have h1:=h.tl
 have h2:=h.rl
 have h3:=varsO_len g.2.2.2.2.1 g.2.2.2.2.1.length (Nat.le_refl _)
 rw [List.take_of_length_le (Nat.le_refl _)] at h3
 have a:(declO g).1.length≤21:=by unfold declO;simp only [List.length_cons,List.length_map];omega
 have b:(declO g).2.1.length≤40:=by unfold declO;dsimp only;omega
 refine ⟨⟨?_,?_⟩,a,b⟩
 ·show (declO g).1.length≤_;omega
 ·show (declO g).2.1.length≤_;omega
end Go.Am.D
namespace Go.Am.D
open Go Go.Am.Pr Go.Am.D.L
set_option maxRecDepth 100000
theorem levK_bd (l:List Lv) (n:List Int):0≤levK l n∧levK l n≤l.length:=by
 have:=findI_bd (fun x:Lv=>decide (n∈x.2.1)) l
 unfold levK;omega
theorem getD_bd {l:List Int} {B:Int} (hB:0≤B) (h:∀ x∈l,0≤x∧x≤B) (j:Nat):0≤l.getD j 0∧l.getD j 0≤B:=by
 by_cases hj:j<l.length
 ·exact h _ (getD_mem' 0 l j hj)
 ·rw [List.getD_eq_getElem?_getD,List.getElem?_eq_none (by omega)];exact ⟨Int.le_refl _,hB⟩
theorem lastV_bd {p:Pl} {B:Int} (hB:0≤B) (h:∀ x∈p.2.2.2.1,0≤x∧x≤B) (l:List qT0):0≤lastV p l∧lastV p l≤B:=by
 unfold lastV
 have key:∀ (l:List qT0) (v:Int),0≤v∧v≤B→0≤l.foldl (fun v n=>if termO p (symO p n)=true then p.2.2.2.1.getD (symO p n).toNat 0 else v) v∧l.foldl (fun v n=>if termO p (symO p n)=true then p.2.2.2.1.getD (symO p n).toNat 0 else v) v≤B:=by
  intro l
  induction l with
  | nil=>intro v hv;exact hv
  | cons n l ih =>
   intro v hv
   rw [List.foldl_cons]
   refine ih _ ?_
   split
   ·exact getD_bd hB h _
   ·exact hv
 exact key l 0 ⟨Int.le_refl _,hB⟩
theorem levs_bd (g:Gr):∀ x∈(declO g).2.2.2.1,0≤x∧x≤g.2.2.1.length:=by
 intro x hx
 rcases List.mem_cons.1 hx with rfl | hx
 ·exact ⟨Int.le_refl _,by omega⟩
 ·obtain ⟨t,_,rfl⟩:=List.mem_map.1 hx
  exact levK_bd _ _
theorem spW_le:∀ (l:List qT0),(∀ x∈l,x.length≤32)→(spW l).length≤l.length * 33
 | [],_=>Nat.le_refl _
 | x::l,h=>by
  have h1:=h x (List.mem_cons_self ..)
  have ih:=spW_le l fun y hy=>h y (List.mem_cons_of_mem _ hy)
  rw [spW_cons,List.length_append,List.length_append,List.length_singleton,List.length_cons,Nat.add_mul]
  omega
section
variable {g:Gr} (h:GoodP g)
include h
theorem GoodP.len32:(∀ x∈(declO g).1,x.length≤32)∧∀ x∈(declO g).2.1,x.length≤32:=by
 refine ⟨fun x hx=>?_,fun x hx=>?_⟩
 ·rcases List.mem_cons.1 hx with rfl | hx
  ·decide
  ·obtain ⟨t,ht,rfl⟩:=List.mem_map.1 hx
   exact nameO_len (h.tn t ht)
 ·obtain ⟨r,hr,rfl⟩:=((varsO_spec _).2 x).1 hx
  exact nameO_len (rulO_split (h.rn r hr)).1
theorem GoodP.plS:PlS (planP g (declO g)):=by
 obtain ⟨b,_,_⟩:=h.plB
 have hl:=h.len32
 refine ⟨b,fun x hx=>by have:=hl.1 x hx;omega,fun x hx=>by have:=hl.2 x hx;omega,fun x hx=>?_,?_⟩
 ·rcases List.mem_cons.1 hx with rfl | hx
  ·show ([_]:List Int).length≤100000
   rw [List.length_singleton];decide
  ·obtain ⟨r,hr,rfl⟩:=List.mem_map.1 hx
   have:=(rulO_split (h.rn r hr)).2.1
   show (r.2.1.map _).length≤_
   rw [List.length_map];omega
 ·show (rulesP g (declO g)).length≤_
  have:=h.rl
  unfold rulesP
  rw [List.length_cons,List.length_map];omega
theorem GoodP.rule {k:Nat} (hk:k<g.2.2.2.2.1.length):(rulesP g (declO g)).getD (k+1) pd0=prodO g.2.2.1 (declO g) (g.2.2.2.2.1.getD k rl0):=by
 show (g.2.2.2.2.1.map _).getD k _=_
 rw [List.getD_eq_getElem?_getD,List.getElem?_map,List.getD_eq_getElem?_getD,List.getElem?_eq_getElem hk];rfl
theorem GoodP.left {r:Rl} (hr:r∈g.2.2.2.2.1):r.1∈(declO g).2.1:=((varsO_spec _).2 _).2 ⟨r,hr,rfl⟩
theorem GoodP.show0:showO (planP g (declO g)) 0=acceptT++[32,58,32]++g.2.2.2.1:=by
 have na:nameP (declO g) (accO (declO g))=acceptT:=by
  unfold nameP
  rw [if_neg (by unfold accO;omega),if_neg (by omega),if_pos rfl]
 have ns:=name_sym (h.symV h.st).1
 unfold showO
 rw [if_neg (by decide),if_neg (by show ¬ ((rulesP g (declO g)).length:Int)≤0;unfold rulesP;rw [List.length_cons];omega)]
 show nameP (declO g) (accO (declO g))++[32,58]++spW [nameP (declO g) (symO (declO g) g.2.2.2.1)]=_
 rw [na,ns];simp [spW]
theorem GoodP.showS {k:Nat} (hk:k<g.2.2.2.2.1.length):showO (planP g (declO g)) ((k:Int)+1)=(g.2.2.2.2.1.getD k rl0).1++[32,58]++spW (g.2.2.2.2.1.getD k rl0).2.1:=by
 have hm:=getD_mem' rl0 g.2.2.2.2.1 k hk
 have e:=h.rule hk
 unfold showO
 have hlen:(planP g (declO g)).2.2.1.length=g.2.2.2.2.1.length+1:=by
  show (rulesP g (declO g)).length=_
  unfold rulesP;rw [List.length_cons,List.length_map]
 rw [if_neg (by omega),if_neg (by rw [hlen];omega)]
 have e1:((k:Int)+1).toNat=k+1:=by omega
 rw [e1]
 show nameP (declO g) ((rulesP g (declO g)).getD (k+1) pd0).1++[32,58]++spW (((rulesP g (declO g)).getD (k+1) pd0).2.1.map (nameP (declO g)))=_
 rw [e]
 unfold prodO
 dsimp only
 rw [name_sym (h.symV (h.left hm)).1,List.map_map]
 congr 2
 refine (List.map_congr_left fun n hn=>?_).trans (List.map_id _)
 exact name_sym (h.rs _ hm n hn)
end
theorem rules (g:Gr) (hi:InR tGr g) (hw:wT tGr g≤1048576):E 4 [.tv [] tGr g] [] (bv true) []:=by
  have hf:=few_ev g hw
  have hfew:=fun h=>few_of (g:=g) h (acts_by hi)
  have ho:=fun h=>of_ev g (hfew h)
  rcases ofO_cases g with ⟨c1,c2,_⟩ | ⟨c1,c⟩
  · clear hi hw hfew
    generalize ofO g=o at ho c1 c2
    obtain ⟨P,e,s⟩:=o
    dsimp only at c1 c2
    subst c1
    obtain ⟨tk,sk,lv,st,rl,⟨⟩⟩:=g
    refine ev_of (vc4 tk sk lv st rl _ ⟨true,⟨awake8_ev⟩,_,⟨hf⟩,fun _=>⟨rfl,rfl⟩,fun q=>?_⟩)
    simp only [Bool.not_eq_false'] at q
    exact ⟨[],[],[],[],[],[],e,s,⟨ho q⟩,fun _=>⟨rfl,rfl⟩,fun q=>absurd q (by simp [c2])⟩
  · rw [c1] at ho
    have hs:=c.plS
    have SH:=fun i=>show_ev hs i
    have TE:=fun x=>term_ev hs.toPlB x
    have A:=acc_ev hs.toPlB
    have s0:=c.show0
    have s1:=fun k hk=>c.showS (k:=k) hk
    have l1:(planP g (declO g)).2.2.1.length=g.2.2.2.2.1.length+1:=by
      show (rulesP g (declO g)).length=_
      unfold rulesP;rw [List.length_cons,List.length_map]
    have l2:(planP g (declO g)).2.2.2.2.2.1.length=g.2.2.2.2.1.length+1:=by
      show ([]::g.2.2.2.2.1.map (·.2.2.2.1)).length=_
      rw [List.length_cons,List.length_map]
    have l3:(planP g (declO g)).2.2.2.1.length=(planP g (declO g)).1.length:=by
      show ((0:Int)::g.1.map _).length=(endT::g.1.map _).length
      rw [List.length_cons,List.length_map,List.length_cons,List.length_map]
    have l4:(planP g (declO g)).2.2.2.2.1.length=g.2.2.1.length+1:=by
      show ((0:Int)::g.2.2.1.map _).length=_
      rw [List.length_cons,List.length_map]
    have a0:(planP g (declO g)).2.2.2.2.2.1.getD 0 []=[]:=rfl
    have a1:∀ k,k<g.2.2.2.2.1.length→(planP g (declO g)).2.2.2.2.2.1.getD (k+1) []=(g.2.2.2.2.1.getD k rl0).2.2.2.1:=by
      intro k hk
      show (g.2.2.2.2.1.map (·.2.2.2.1)).getD k []=_
      rw [List.getD_eq_getElem?_getD,List.getElem?_map,List.getD_eq_getElem?_getD,List.getElem?_eq_getElem hk];rfl
    have r0:((planP g (declO g)).2.2.1.getD 0 pd0).1=accO (planP g (declO g)):=rfl
    have r1:∀ k,k<g.2.2.2.2.1.length→(0≤((planP g (declO g)).2.2.1.getD (k+1) pd0).2.2.1∧((planP g (declO g)).2.2.1.getD (k+1) pd0).2.2.1≤g.2.2.1.length)∧termO (planP g (declO g)) ((planP g (declO g)).2.2.1.getD (k+1) pd0).1=false:=by
      intro k hk
      have hm:=getD_mem' rl0 g.2.2.2.2.1 k hk
      have e:(planP g (declO g)).2.2.1.getD (k+1) pd0=prodO g.2.2.1 (declO g) (g.2.2.2.2.1.getD k rl0):=c.rule hk
      rw [e]
      refine ⟨?_,(c.symV (c.left hm)).2⟩
      unfold prodO
      dsimp only
      split
      · exact levK_bd _ _
      · exact lastV_bd (by omega) (levs_bd g) _
    have n1:g.2.2.2.1.length≤32:=by
      obtain ⟨r,hr,e⟩:=((varsO_spec _).2 _).1 c.st
      have:=nameO_len (rulO_split (c.rn r hr)).1
      rw [e] at this;exact this
    have n2:∀ r∈g.2.2.2.2.1,r.1.length≤32∧r.2.1.length≤8∧∀ x∈r.2.1,x.length≤32:=fun r hr=>by
      obtain ⟨q1,q2,q3,_,_⟩:=rulO_split (c.rn r hr)
      exact ⟨nameO_len q1,q2,fun x hx=>nameO_len (List.all_eq_true.1 q3 x hx)⟩
    have n3:=c.rl
    have n4:=c.ll
    clear hi hw hfew c1 c hs
    generalize planP g (declO g)=PP' at *
    generalize showO PP'=SS at SH s0 s1
    generalize termO PP'=TT at TE r1
    generalize accO PP'=A0 at A r0
    obtain ⟨a,b,c,d,e,f,⟨⟩⟩:=PP'
    obtain ⟨tk,sk,lv,st,rl,⟨⟩⟩:=g
    dsimp only at s0 s1 l1 l2 l3 l4 a0 a1 r0 r1 n1 n2 n3 n4
    have hbn:1000000<bigN:=by decide
    refine ev_of (vc4 tk sk lv st rl _ ⟨true,⟨awake8_ev⟩,_,⟨hf⟩,fun _=>⟨rfl,rfl⟩,fun q=>?_⟩)
    simp only [Bool.not_eq_false'] at q
    refine ⟨a,b,c,d,e,f,_,_,⟨ho q⟩,fun q=>absurd q (by simp),fun _=>⟨⟨by omega⟩,fun q=>by (simp only [decide_eq_true_eq,decide_eq_false_iff_not,Bool.not_eq_true',Bool.not_eq_false'] at q);omega,fun _=>⟨fun q=>by (simp only [decide_eq_true_eq,decide_eq_false_iff_not,Bool.not_eq_true',Bool.not_eq_false'] at q);omega,fun _=>⟨fun q=>by (simp only [decide_eq_true_eq,decide_eq_false_iff_not,Bool.not_eq_true',Bool.not_eq_false'] at q);omega,fun _=>⟨⟨by omega⟩,fun q=>by (simp only [decide_eq_true_eq,decide_eq_false_iff_not,Bool.not_eq_true',Bool.not_eq_false'] at q);omega,fun _=>⟨_,⟨SH 0⟩,⟨by omega⟩,fun q=>?_,fun _=>?_⟩⟩⟩⟩⟩⟩
    · (simp only [decide_eq_true_eq,decide_eq_false_iff_not,Bool.not_eq_true',Bool.not_eq_false'] at q);exact absurd s0 q
    refine ⟨fun z=>∃ k:Nat,z=k∧k≤rl.length,fun z=>((rl.length:Int)-z).toNat,⟨0,rfl,by omega⟩,?_⟩
    rintro z ⟨k,rfl,hk⟩
    refine ⟨fun q1=>?_,fun q1=>?_⟩
    · (simp only [decide_eq_true_eq,decide_eq_false_iff_not,Bool.not_eq_true',Bool.not_eq_false'] at q1)
      have hk':k<rl.length:=by omega
      have e1:((k:Int)+1).toNat=k+1:=by omega
      simp only [Int.toNat_natCast,e1]
      have s1:=s1 k hk'
      have a1:=a1 k hk'
      obtain ⟨⟨r1,r2⟩,r3⟩:=r1 k hk'
      obtain ⟨m1,m2,m3⟩:=n2 _ (getD_mem' rl0 rl k hk')
      change (rl.getD k ([],([],([],([],()))))).1.length≤32 at m1
      change (rl.getD k ([],([],([],([],()))))).2.1.length≤8 at m2
      refine ⟨⟨by omega⟩,⟨by omega⟩,?_⟩
      refine ⟨fun s z=>∃ j:Nat,z=j∧j≤(rl.getD k rl0).2.1.length∧s=(rl.getD k rl0).1++[32,58]++spW ((rl.getD k rl0).2.1.take j),fun _ z=>(((rl.getD k rl0).2.1.length:Int)-z).toNat,⟨0,rfl,by omega,by simp [spW]⟩,?_⟩
      rintro s z ⟨j,rfl,hj,rfl⟩
      have hs:=spW_le ((rl.getD k rl0).2.1.take j) fun x hx=>m3 x (List.mem_of_mem_take hx)
      have hs2:((rl.getD k rl0).1++[32,58]++spW ((rl.getD k rl0).2.1.take j)).length≤400:=by
        rw [List.length_take] at hs
        simp only [List.length_append,List.length_cons,List.length_nil]
        have:(rl.getD k rl0).1.length≤32:=m1
        have:(rl.getD k rl0).2.1.length≤8:=m2
        omega
      refine ⟨⟨by omega⟩,fun q2=>?_,fun q2=>?_⟩
      · (simp only [decide_eq_true_eq,decide_eq_false_iff_not,Bool.not_eq_true',Bool.not_eq_false'] at q2)
        have hj':j<(rl.getD k rl0).2.1.length:=by
          show j<(rl.getD k ([],([],([],([],()))))).2.1.length
          omega
        have m3:=m3 _ (getD_mem' [] (rl.getD k rl0).2.1 j hj')
        rw [Int.toNat_natCast]
        refine ⟨⟨by omega⟩,⟨by omega⟩,⟨by omega⟩,⟨?_⟩,⟨by omega⟩,⟨trivial⟩,⟨j+1,by omega,by omega,?_⟩,⟨?_⟩⟩
        · rw [List.length_append,List.length_singleton]
          have m3:((rl.getD k ([],([],([],([],()))))).2.1.getD j []).length≤32:=m3
          omega
        · rw [spW_snoc hj'];simp
        · have hj2:j<(rl.getD k ([],([],([],([],()))))).2.1.length:=hj'
          dsimp only
          omega
      · (simp only [decide_eq_true_eq,decide_eq_false_iff_not,Bool.not_eq_true',Bool.not_eq_false'] at q2)
        have hj2:¬ ((j:Int)<((rl.getD k rl0).2.1.length:Int)):=q2
        have e0:(rl.getD k rl0).2.1.take j=(rl.getD k rl0).2.1:=List.take_of_length_le (by omega)
        rw [e0]
        refine ⟨⟨by omega⟩,⟨by omega⟩,⟨by omega⟩,_,⟨SH _⟩,fun q=>?_,fun _=>⟨⟨by omega⟩,⟨by omega⟩,⟨by omega⟩,fun q=>?_,fun _=>⟨fun q=>?_,fun _=>⟨fun q=>?_,fun _=>⟨_,⟨TE _⟩,fun q=>?_,fun _=>⟨⟨by omega⟩,⟨trivial⟩,⟨k+1,by omega,by omega⟩,⟨by ((try dsimp only);omega)⟩⟩⟩⟩⟩⟩⟩
        · (simp only [decide_eq_true_eq,decide_eq_false_iff_not,Bool.not_eq_true',Bool.not_eq_false'] at q);exact absurd s1 q
        · (simp only [decide_eq_true_eq,decide_eq_false_iff_not,Bool.not_eq_true',Bool.not_eq_false'] at q);exact absurd a1 q
        · (simp only [decide_eq_true_eq,decide_eq_false_iff_not,Bool.not_eq_true',Bool.not_eq_false'] at q)
          have r1:0≤(c.getD (k+1) ((0:Int),(([]:List Int),((0:Int),())))).2.2.1:=r1
          omega
        · (simp only [decide_eq_true_eq,decide_eq_false_iff_not,Bool.not_eq_true',Bool.not_eq_false'] at q)
          have r2:(c.getD (k+1) ((0:Int),(([]:List Int),((0:Int),())))).2.2.1≤lv.length:=r2
          omega
        · have r3:TT (c.getD (k+1) ((0:Int),(([]:List Int),((0:Int),())))).1=false:=r3
          rw [r3] at q;cases q
    · refine ⟨fun _=>⟨⟨by omega⟩,fun _=>⟨⟨by omega⟩,_,⟨A⟩,tvB ?_,rfl⟩,fun q=>?_⟩,fun q=>absurd q (by decide)⟩
      · exact decide_eq_true r0
      · (simp only [decide_eq_true_eq,decide_eq_false_iff_not,Bool.not_eq_true',Bool.not_eq_false'] at q);exact absurd a0 q
end Go.Am.D
