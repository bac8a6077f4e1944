/-
  A part of the proof of a law: see the text that states it.
-/
import Derived.Test.YtggaihkjnomflaaDoorPG
import Derived.Test.YtggaihkjnomflaaDoorZG
import Derived.Test.YtggaihkjnomflaaDoorVcY
set_option linter.all false
namespace Go.Am.D
open Go Go.Am.Pr Go.Am.D.L
set_option maxRecDepth 100000
theorem inr_mem {t:Ty} {l:List (den t)} (h:InR (.slice t) l):∀ y∈l,InR t y:=by
 intro y hy
 obtain ⟨i,hi,rfl⟩:=List.mem_iff_getElem.1 hy
 have:=h.2 i hi
 rw [List.getD_eq_getElem?_getD,List.getElem?_eq_getElem hi] at this
 exact this
theorem acts_by {g:Gr} (h:InR tGr g):∀ r∈g.2.2.2.2.1,ActB r:=fun r hr=>(inr_mem (t:=tRl) h.2.2.2.2.1 r hr).2.2.2.1.2
theorem GoodP.plB {g:Gr} (h:GoodP g):PlB (planP g (declO g))∧(declO g).1.length≤21∧(declO g).2.1.length≤40:=by
 have h1:=h.tl
 have h2:=h.rl
 have h3:=varsO_len g.2.2.2.2.1 g.2.2.2.2.1.length (Nat.le_refl _)
 rw [List.take_of_length_le (Nat.le_refl _)] at h3
 have a:(declO g).1.length≤21:=by unfold declO;simp only [List.length_cons,List.length_map];omega
 have b:(declO g).2.1.length≤40:=by unfold declO;dsimp only;omega
 refine ⟨⟨?_,?_⟩,a,b⟩
 ·show (declO g).1.length≤_;omega
 ·show (declO g).2.1.length≤_;omega
theorem backs (g:Gr) (hi:InR tGr g) (hw:wT tGr g≤1048576):E 3 [.tv [] tGr g] [] (bv true) []:=by
  have hf:=few_ev g hw
  have hfew:=fun h=>few_of (g:=g) h (acts_by hi)
  have ho:=fun h=>of_ev g (hfew h)
  rcases ofO_cases g with ⟨c1,c2,c3⟩ | ⟨c1,c⟩
  · clear hi hw hfew
    generalize ofO g=o at ho c1 c2 c3
    obtain ⟨P,e,s⟩:=o
    dsimp only at c1 c2 c3
    subst c1
    obtain ⟨tk,sk,lv,st,rl,⟨⟩⟩:=g
    refine ev_of (vc3 tk sk lv st rl _ ⟨true,⟨awake8_ev⟩,_,⟨hf⟩,fun _=>⟨rfl,rfl⟩,fun q=>?_⟩)
    simp only [Bool.not_eq_false'] at q
    refine ⟨[],[],[],[],[],[],e,s,⟨ho q⟩,fun _=>⟨fun _=>⟨fun _=>⟨fun _=>⟨tvB ?_,rfl⟩,fun q=>absurd q (by decide)⟩,fun q=>absurd q (by decide)⟩,fun q=>absurd q (by decide)⟩,fun q=>absurd q (by simp [c2])⟩
    rw [decide_eq_decide.2 c3,beq_self_eq_true]
  · rw [c1] at ho
    obtain ⟨hb,n1,n2⟩:=c.plB
    have A:=acc_ev hb
    have N:=fun x=>name_ev hb x
    have S:=fun n=>sym_ev hb n
    have hP:∀ x,nameP (planP g (declO g)) x=nameP (declO g) x:=fun x=>rfl
    have hS:∀ n,symO (planP g (declO g)) n=symO (declO g) n:=fun n=>rfl
    have hA:accO (planP g (declO g))=accO (declO g):=rfl
    simp only [hP] at N
    simp only [hS] at S
    rw [hA] at A
    have bk:=fun z hz=>c.back (z:=z) hz
    have n0:nameP (declO g) 0=endT:=by
      have l1:0<(declO g).1.length:=by unfold declO;exact Nat.succ_pos _
      unfold nameP
      rw [if_neg (by decide),if_neg (by unfold accO;omega),if_neg (by unfold accO;omega),if_pos (by unfold termO;rw [decide_eq_true (by omega),decide_eq_true (by omega)];rfl)]
      rfl
    have na:nameP (declO g) (accO (declO g))=acceptT:=by
      unfold nameP
      rw [if_neg (by unfold accO;omega),if_neg (by omega),if_pos rfl]
    have tks:∀ z,z<g.1.length→symO (declO g) (g.1.getD z tk0).1=z+1:=by
      intro z hz
      have e:(declO g).1.getD (z+1) []=(g.1.getD z tk0).1:=by
        show (g.1.map (·.1)).getD z []=_
        rw [List.getD_eq_getElem?_getD,List.getElem?_map,List.getD_eq_getElem?_getD,List.getElem?_eq_getElem hz];rfl
      have hl:z+1<(declO g).1.length:=by unfold declO;simp only [List.length_cons,List.length_map];omega
      rw [← e]
      unfold symO
      rw [place_at c.terms.1 hl,if_pos (by omega)];omega
    have ha:accO (declO g)=((planP g (declO g)).1.length:Int)+((planP g (declO g)).2.1.length:Int):=rfl
    have hl:(planP g (declO g)).1.length=g.1.length+1:=by
      show (declO g).1.length=_
      unfold declO;simp only [List.length_cons,List.length_map]
    have n1':(planP g (declO g)).1.length≤21:=n1
    have n2':(planP g (declO g)).2.1.length≤40:=n2
    clear hi hw hfew c1 hP hS hA hb n1 n2 c
    generalize accO (declO g)=A0 at A bk na ha
    generalize nameP (declO g)=NN at N bk n0 na
    generalize symO (declO g)=SS at S bk tks
    generalize planP g (declO g)=PP' at A N S ho ha hl n1' n2'
    obtain ⟨a,b,c,d,e,f,⟨⟩⟩:=PP'
    obtain ⟨tk,sk,lv,st,rl,⟨⟩⟩:=g
    dsimp only at ha hl n1' n2' tks
    refine ev_of (vc3 tk sk lv st rl _ ⟨true,⟨awake8_ev⟩,_,⟨hf⟩,fun _=>⟨rfl,rfl⟩,fun q=>?_⟩)
    simp only [Bool.not_eq_false'] at q
    refine ⟨a,b,c,d,e,f,_,_,⟨ho q⟩,fun q=>absurd q (by simp),fun _=>⟨_,⟨A⟩,?_⟩⟩
    refine ⟨fun z=>∃ k:Nat,z=k∧(k:Int)≤A0,fun z=>(A0-z).toNat,⟨0,rfl,by omega⟩,?_⟩
    rintro z ⟨k,rfl,hk⟩
    refine ⟨fun q1=>?_,fun q1=>?_⟩
    · (simp only [decide_eq_true_eq,decide_eq_false_iff_not,Bool.not_eq_true',Bool.not_eq_false'] at q1)
      obtain ⟨b1,b2⟩:=bk k q1
      refine ⟨_,⟨N k⟩,fun q2=>?_,fun q2=>⟨_,⟨S _⟩,fun q3=>?_,fun q3=>⟨⟨by omega⟩,⟨rfl⟩,⟨k+1,by omega,by omega⟩,⟨by ((try dsimp only);omega)⟩⟩⟩⟩
      · (simp only [decide_eq_true_eq,decide_eq_false_iff_not,Bool.not_eq_true',Bool.not_eq_false'] at q2);exact absurd q2 b1
      · (simp only [decide_eq_true_eq,decide_eq_false_iff_not,Bool.not_eq_true',Bool.not_eq_false'] at q3);exact absurd b2 q3
    · clear hk q1 k
      refine ⟨fun z=>∃ k:Nat,z=k∧k≤tk.length,fun z=>((tk.length:Int)-z).toNat,⟨0,rfl,by omega⟩,?_⟩
      rintro z ⟨k,rfl,hk⟩
      refine ⟨fun q1=>?_,fun _=>⟨fun _=>⟨⟨by omega⟩,fun _=>⟨_,⟨N 0⟩,fun _=>⟨_,⟨N A0⟩,fun _=>⟨⟨by omega⟩,tvB ?_,rfl⟩,fun q2=>?_⟩,fun q2=>?_⟩,fun q2=>?_⟩,fun q2=>absurd q2 (by decide)⟩⟩
      · (simp only [decide_eq_true_eq,decide_eq_false_iff_not,Bool.not_eq_true',Bool.not_eq_false'] at q1)
        have hk':k<tk.length:=by omega
        rw [Int.toNat_natCast]
        refine ⟨⟨by omega⟩,_,⟨S _⟩,⟨by omega⟩,fun q2=>?_,fun q2=>⟨⟨by omega⟩,⟨rfl⟩,⟨k+1,by omega,by omega⟩,⟨by ((try dsimp only);omega)⟩⟩⟩
        (simp only [decide_eq_true_eq,decide_eq_false_iff_not,Bool.not_eq_true',Bool.not_eq_false'] at q2)
        exact absurd (tks k hk') q2
      · exact decide_eq_true (by omega)
      · (simp only [decide_eq_true_eq,decide_eq_false_iff_not,Bool.not_eq_true',Bool.not_eq_false'] at q2);exact absurd na q2
      · (simp only [decide_eq_true_eq,decide_eq_false_iff_not,Bool.not_eq_true',Bool.not_eq_false'] at q2);exact absurd n0 q2
      · (simp only [decide_eq_true_eq,decide_eq_false_iff_not,Bool.not_eq_true',Bool.not_eq_false'] at q2);exact absurd ha q2
end Go.Am.D
