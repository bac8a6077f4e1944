/-
  A part of the proof of a law: see the text that states it.
-/
import Derived.Test.YtggaihkjnomflaaDoorPG
import Derived.Test.YtggaihkjnomflaaDoorVe1
set_option linter.all false
namespace Go.Am.D
open Go Go.Am.Pr Go.Am.D.L
open Go.Am.G (GoodG toks vrs lvs tSm Sml SmOK gramOf gramOf_good)
set_option maxRecDepth 100000
theorem gram_is {s:Sml} (h:SmOK s):E 16 [.tv [] tSm s] [] (.tv [] tGr (gramOf s h)) [] :=
 ev_prim (g:=Go.Am.G.gramPrim) [] rfl (Go.Am.G.gramPrim_ok h)
def fewS (s:Sml) (a b:Int):Bool:=decide ((s.2.2.1.length:Int)≤a)&&(decide (s.2.2.2.2.2.1.length≤5)&&s.2.2.2.1.all fun l=>decide ((l.length:Int)≤b))
theorem fewS_ev (s:Sml) (a b:Int) (hl:s.2.2.2.1.length≤9223372036854775807):E 15 [.tv [] tSm s,iv a,iv b] [] (bv (fewS s a b)) []:=by
 obtain ⟨x0,x1,x2,x3,x4,x5,x6,⟨⟩⟩:=s
 dsimp only at hl
 unfold fewS
 dsimp only
 refine ev_of (vc15 x0 x1 x2 x3 x4 x5 x6 a b _ ⟨fun h=>⟨tvB ?_,rfl⟩,fun h=>⟨fun h2=>⟨tvB ?_,rfl⟩,fun h2=>?_⟩⟩)
 ·(simp only [decide_eq_true_eq,decide_eq_false_iff_not,Bool.not_eq_true',Bool.not_eq_false'] at h);rw [decide_eq_false (by omega)];rfl
 ·(simp only [decide_eq_true_eq,decide_eq_false_iff_not,Bool.not_eq_true',Bool.not_eq_false'] at h2);rw [decide_eq_false (p:=x5.length≤5) (by omega),Bool.false_and,Bool.and_false]
 (simp only [decide_eq_true_eq,decide_eq_false_iff_not,Bool.not_eq_true',Bool.not_eq_false'] at h h2)
 rw [decide_eq_true (show (x2.length:Int)≤a by omega),decide_eq_true (show x5.length≤5 by omega),Bool.true_and,Bool.true_and]
 refine ⟨fun z=>∃ k:Nat,z=k∧k≤x3.length∧(x3.take k).all (fun l=>decide ((l.length:Int)≤b))=true,fun z=>((x3.length:Int)-z).toNat,⟨0,rfl,by omega,rfl⟩,?_⟩
 rintro z ⟨k,rfl,hk,hv⟩
 refine ⟨fun q=>?_,fun q=>?_⟩
 ·(simp only [decide_eq_true_eq,decide_eq_false_iff_not,Bool.not_eq_true',Bool.not_eq_false'] at q)
  have hk':k<x3.length:=by omega
  rw [Int.toNat_natCast]
  refine ⟨⟨by omega⟩,fun q2=>⟨tvB ?_,rfl⟩,fun q2=>⟨⟨by omega⟩,⟨k+1,by omega,by omega,?_⟩,⟨by ((try dsimp only);omega)⟩⟩⟩
  ·(simp only [decide_eq_true_eq,decide_eq_false_iff_not,Bool.not_eq_true',Bool.not_eq_false'] at q2)
   exact (all_take_false (d:=([]:List Int)) hk' (decide_eq_false (by omega))).symm
  ·(simp only [decide_eq_true_eq,decide_eq_false_iff_not,Bool.not_eq_true',Bool.not_eq_false'] at q2)
   rw [take_snoc ([]:List Int) hk',all_snoc,hv,decide_eq_true (by omega)];rfl
 ·(simp only [decide_eq_true_eq,decide_eq_false_iff_not,Bool.not_eq_true',Bool.not_eq_false'] at q)
  rw [List.take_of_length_le (by omega)] at hv
  exact ⟨tvB hv.symm,rfl⟩
theorem tok_nm:(∀ x∈toks,nameO x=true)∧(∀ x∈vrs,nameO x=true)∧(∀ x∈lvs,nameO x=true)∧(∀ x∈toks,x ∉ vrs)∧(∀ x∈toks,x ∉ lvs)∧(∀ x∈toks,x≠[]∧x.length≤32)∧∀ x∈lvs,x≠[]:=by decide
abbrev smG (t:List Tk) (l:List Lv) (r:List Rl):Gr:=(t,([],(l,([83],(r,())))))
theorem few_small {t:List Tk} {l:List Lv} {r:List Rl} (h:GoodG t l [83] r):Few (smG t l r):=by
 have nl:∀ x:List Int,(x∈toks∨x∈vrs∨x∈lvs)→x.length≤32:=fun x hx=>by
  rcases hx with hx | hx | hx
  ·exact nameO_len (tok_nm.1 x hx)
  ·exact nameO_len (tok_nm.2.1 x hx)
  ·exact nameO_len (tok_nm.2.2.1 x hx)
 have h1:=h.tn
 have h2:=h.ln
 have h3:=h.lnn
 have h4:=h.rn.2
 refine ⟨by dsimp only;omega,fun x hx=>?_,Nat.zero_le _,nofun,by dsimp only;omega,?_,by dsimp only;omega,fun x hx=>?_,fun x hx=>?_⟩
 ·obtain ⟨q1,q2⟩:=h.tok x hx
  have:=nl _ (.inl q1)
  rw [q2]
  exact ⟨by omega,by dsimp only;omega,Nat.zero_le _⟩
 ·exact Nat.le_trans h3 (by decide)
 ·refine ⟨by have:=nl _ (.inr (.inl (h.left x hx)));omega,by have:=h.rlen x hx;omega,fun n hn=>?_,?_,by rw [h.act x hx];exact Nat.zero_le _⟩
  ·rcases h.rnm x hx n hn with q | q
   ·have:=nl _ (.inl (h.tname q));omega
   ·have:=nl _ (.inr (.inl (h.rname q)));omega
  ·rcases h.prec x hx with q | q
   ·rw [q];exact Nat.zero_le _
   ·have:=nl _ (.inr (.inr q.1));omega
 ·show ActB x
  unfold ActB
  rw [h.act x hx];nofun
theorem levK_in {l:List Lv} {n:List Int} (h:n∈l.flatMap (·.2.1)):levK l n≠0:=by
 rcases findI_cases (fun x:Lv=>decide (n∈x.2.1)) l with ⟨_,h2⟩ | ⟨k,_,h2,_,_⟩
 ·obtain ⟨x,hx,hn⟩:=List.mem_flatMap.1 h
  rw [List.any_eq_false] at h2
  exact absurd (decide_eq_true hn) (h2 x hx)
 ·unfold levK;rw [h2];omega
end Go.Am.D
