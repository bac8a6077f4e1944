/-
  A part of the proof of a law: see the text that states it.
-/
import Derived.Test.YtggaihkjnomflaaDoorPG
import Derived.Test.YtggaihkjnomflaaDoorVd2
set_option linter.all false
namespace Go.Am.D
open Go Go.Am.Pr Go.Am.D.L
open Go.Am.G (GoodG toks vrs lvs tSm Sml SmOK gramOf gramOf_good)
set_option maxRecDepth 100000
theorem gram_is {s:Sml} (h:SmOK s):E 16 [.tv [] tSm s] [] (.tv [] tGr (gramOf s h)) [] :=
 ev_prim (g:=Go.Am.G.gramPrim) [] rfl (Go.Am.G.gramPrim_ok h)
def fewS (s:Sml) (a b:Int):Bool:=decide ((s.2.2.1.length:Int)≤a)&&(decide (s.2.2.2.2.2.1.length≤5)&&s.2.2.2.1.all fun l=>decide ((l.length:Int)≤b))
theorem fewS_ev (s:Sml) (a b:Int) (hl:s.2.2.2.1.length≤9223372036854775807):E 15 [.tv [] tSm s,iv a,iv b] [] (bv (fewS s a b)) []:=by
 obtain ⟨x0,x1,x2,x3,x4,x5,x6,⟨⟩⟩:=s
 dsimp only at hl
 unfold fewS
 dsimp only
 refine ev_of (vc15 x0 x1 x2 x3 x4 x5 x6 a b _ ⟨fun h=>⟨tvB ?_,rfl⟩,fun h=>⟨fun h2=>⟨tvB ?_,rfl⟩,fun h2=>?_⟩⟩)
 ·(simp only [decide_eq_true_eq,decide_eq_false_iff_not,Bool.not_eq_true',Bool.not_eq_false'] at h);rw [decide_eq_false (by omega)];rfl
 ·(simp only [decide_eq_true_eq,decide_eq_false_iff_not,Bool.not_eq_true',Bool.not_eq_false'] at h2);rw [decide_eq_false (p:=x5.length≤5) (by omega),Bool.false_and,Bool.and_false]
 (simp only [decide_eq_true_eq,decide_eq_false_iff_not,Bool.not_eq_true',Bool.not_eq_false'] at h h2)
 rw [decide_eq_true (show (x2.length:Int)≤a by omega),decide_eq_true (show x5.length≤5 by omega),Bool.true_and,Bool.true_and]
 refine ⟨fun z=>∃ k:Nat,z=k∧k≤x3.length∧(x3.take k).all (fun l=>decide ((l.length:Int)≤b))=true,fun z=>((x3.length:Int)-z).toNat,⟨0,rfl,by omega,rfl⟩,?_⟩
 rintro z ⟨k,rfl,hk,hv⟩
 refine ⟨fun q=>?_,fun q=>?_⟩
 ·(simp only [decide_eq_true_eq,decide_eq_false_iff_not,Bool.not_eq_true',Bool.not_eq_false'] at q)
  have hk':k<x3.length:=by omega
  rw [Int.toNat_natCast]
  refine ⟨⟨by omega⟩,fun q2=>⟨tvB ?_,rfl⟩,fun q2=>⟨⟨by omega⟩,⟨k+1,by omega,by omega,?_⟩,⟨by ((try dsimp only);omega)⟩⟩⟩
  ·(simp only [decide_eq_true_eq,decide_eq_false_iff_not,Bool.not_eq_true',Bool.not_eq_false'] at q2)
   exact (all_take_false (d:=([]:List Int)) hk' (decide_eq_false (by omega))).symm
  ·(simp only [decide_eq_true_eq,decide_eq_false_iff_not,Bool.not_eq_true',Bool.not_eq_false'] at q2)
   rw [take_snoc ([]:List Int) hk',all_snoc,hv,decide_eq_true (by omega)];rfl
 ·(simp only [decide_eq_true_eq,decide_eq_false_iff_not,Bool.not_eq_true',Bool.not_eq_false'] at q)
  rw [List.take_of_length_le (by omega)] at hv
  exact ⟨tvB hv.symm,rfl⟩
theorem tok_nm:(∀ x∈toks,nameO x=true)∧(∀ x∈vrs,nameO x=true)∧(∀ x∈lvs,nameO x=true)∧(∀ x∈toks,x ∉ vrs)∧(∀ x∈toks,x ∉ lvs)∧(∀ x∈toks,x≠[]∧x.length≤32)∧∀ x∈lvs,x≠[]:=by decide
abbrev smG (t:List Tk) (l:List Lv) (r:List Rl):Gr:=(t,([],(l,([83],(r,())))))
theorem few_small {t:List Tk} {l:List Lv} {r:List Rl} (h:GoodG t l [83] r):Few (smG t l r):=by
 have nl:∀ x:List Int,(x∈toks∨x∈vrs∨x∈lvs)→x.length≤32:=fun x hx=>by
  rcases hx with hx | hx | hx
  ·exact nameO_len (tok_nm.1 x hx)
  ·exact nameO_len (tok_nm.2.1 x hx)
  ·exact nameO_len (tok_nm.2.2.1 x hx)
 have h1:=h.tn
 have h2:=h.ln
 have h3:=h.lnn
 have h4:=h.rn.2
 refine ⟨by dsimp only;omega,fun x hx=>?_,Nat.zero_le _,nofun,by dsimp only;omega,?_,by dsimp only;omega,fun x hx=>?_,fun x hx=>?_⟩
 ·obtain ⟨q1,q2⟩:=h.tok x hx
  have:=nl _ (.inl q1)
  rw [q2]
  exact ⟨by omega,by dsimp only;omega,Nat.zero_le _⟩
 ·exact Nat.le_trans h3 (by decide)
 ·refine ⟨by have:=nl _ (.inr (.inl (h.left x hx)));omega,by have:=h.rlen x hx;omega,fun n hn=>?_,?_,by rw [h.act x hx];exact Nat.zero_le _⟩
  ·rcases h.rnm x hx n hn with q | q
   ·have:=nl _ (.inl (h.tname q));omega
   ·have:=nl _ (.inr (.inl (h.rname q)));omega
  ·rcases h.prec x hx with q | q
   ·rw [q];exact Nat.zero_le _
   ·have:=nl _ (.inr (.inr q.1));omega
 ·show ActB x
  unfold ActB
  rw [h.act x hx];nofun
theorem levK_at {l:List Lv} (hd:(l.flatMap (·.2.1)).Nodup) {k:Nat} (hk:k<l.length) {n:List Int} (hn:n∈(l.getD k lv0).2.1):levK l n=k+1:=by
 have e:findI (fun x:Lv=>decide (n∈x.2.1)) l=k:=by
  refine findI_hit (d:=lv0) hk (List.any_eq_false.2 fun x hx q=>?_) (decide_eq_true hn)
  have q:=of_decide_eq_true q
  have e:l=l.take k++(l.getD k lv0::l.drop (k+1)):=by rw [← drop_cons lv0 hk,List.take_append_drop]
  rw [e,List.flatMap_append,List.nodup_append] at hd
  exact hd.2.2 n (List.mem_flatMap.2 ⟨x,hx,q⟩) n (List.mem_flatMap.2 ⟨_,List.mem_cons_self ..,hn⟩) rfl
 unfold levK;rw [e];omega
theorem levK_no {l:List Lv} {n:List Int} (h:n ∉ l.flatMap (·.2.1)):levK l n=0:=by
 have e:findI (fun x:Lv=>decide (n∈x.2.1)) l=-1:=findI_no (List.any_eq_false.2 fun x hx q=>h (List.mem_flatMap.2 ⟨x,hx,of_decide_eq_true q⟩))
 unfold levK;rw [e];rfl
theorem levK_in {l:List Lv} {n:List Int} (h:n∈l.flatMap (·.2.1)):levK l n≠0:=by
 rcases findI_cases (fun x:Lv=>decide (n∈x.2.1)) l with ⟨_,h2⟩ | ⟨k,_,h2,_,_⟩
 ·obtain ⟨x,hx,hn⟩:=List.mem_flatMap.1 h
  rw [List.any_eq_false] at h2
  exact absurd (decide_eq_true hn) (h2 x hx)
 ·unfold levK;rw [h2];omega
theorem good_small {t:List Tk} {l:List Lv} {r:List Rl} (h:GoodG t l [83] r):ofO (smG t l r)=(planP (smG t l r) (declO (smG t l r)),(0,[])):=by
  have hR:rightO (smG t l r)=true:=by
    refine (rightO_iff _).2 ⟨⟨fun x hx=>?_,by have:=h.tn;dsimp only;omega,?_⟩,⟨fun x hx=>?_,by have:=h.ln;dsimp only;omega,?_⟩,Nat.zero_le _,nofun,(by decide:nameO [83]=true),by have:=h.rn.1;dsimp only;omega,by have:=h.rn.2;dsimp only;omega,fun x hx=>?_⟩
    · obtain ⟨q1,q2⟩:=h.tok x hx
      have:=tok_nm.2.2.2.2.2.1 _ q1
      rw [q2]
      unfold patO
      rw [if_pos this.1,decide_eq_true this.2];rfl
    · unfold onceO
      rw [decide_eq_true h.tnd,List.all_eq_true.2 fun n hn=>tok_nm.1 n (h.tname hn)];rfl
    · obtain ⟨q1,q2,q3⟩:=h.lev x hx
      unfold lvO1
      rw [decide_eq_true q1,decide_eq_true q2,decide_eq_false q3];rfl
    · unfold onceO
      rw [decide_eq_true h.lnd,List.all_eq_true.2 fun n hn=>(h.lnm n hn).elim (tok_nm.1 n) (tok_nm.2.2.1 n)];rfl
    · unfold rulO
      rw [tok_nm.2.1 _ (h.left x hx),decide_eq_true (h.rlen x hx),List.all_eq_true.2 fun n hn=>(h.rnm x hx n hn).elim (fun q=>tok_nm.1 n (h.tname q)) fun q=>tok_nm.2.1 n (h.rname q),h.act x hx]
      rcases h.prec x hx with q | q
      · rw [q];rfl
      · rw [tok_nm.2.2.1 _ q.1,Bool.or_true];rfl
  have hv:∀ n,n∈(declO (smG t l r)).2.1↔n∈r.map (·.1):=fun n=>by
    refine ((varsO_spec r).2 n).trans ?_
    rw [List.mem_map]
  have ht:(declO (smG t l r)).1=endT::t.map (·.1):=rfl
  have hs:∀ n,(n∈t.map (·.1)∨n∈r.map (·.1))→0≤symO (declO (smG t l r)) n:=fun n hn=>by
    unfold symO
    split
    · assumption
    · rename_i q1
      rcases hn with hn | hn
      · exact absurd (place_in (by rw [ht];exact List.mem_cons_of_mem _ hn)) q1
      · have:=place_in ((hv n).2 hn)
        rw [if_pos this];omega
  unfold ofO
  rw [if_neg (by rw [hR];decide)]
  have e1:findI (fun x:Tk=>decide (x.1∈(declO (smG t l r)).2.1)) (smG t l r).1=-1:=by
    refine findI_no (List.any_eq_false.2 fun x hx q=>?_)
    have q:=(hv _).1 (of_decide_eq_true q)
    exact tok_nm.2.2.2.1 _ (h.tok x hx).1 (h.rname q)
  rw [e1,if_neg (by decide)]
  have e2:r.findSome? (badR l (declO (smG t l r)))=none:=by
    rw [List.findSome?_eq_none_iff]
    intro x hx
    unfold badR
    have e3:findI (fun n=>decide (symO (declO (smG t l r)) n<0)) x.2.1=-1:=by
      refine findI_no (List.any_eq_false.2 fun n hn q=>?_)
      have:=hs n (h.rnm x hx n hn)
      have:=of_decide_eq_true q
      omega
    rw [e3,if_neg (by decide),if_neg]
    rintro ⟨q1,q2⟩
    rcases h.prec x hx with q | ⟨_,y,hy,hn⟩
    · exact q1 q
    · exact levK_in (List.mem_flatMap.2 ⟨y,hy,hn⟩) q2
  have e4:(unkO (smG t l r) (declO (smG t l r))).2=false:=by
    unfold unkO
    dsimp only
    rw [e2]
    dsimp only
    rw [decide_eq_true ((hv _).2 h.stt.2)];rfl
  rw [if_neg (by rw [e4];decide)]
end Go.Am.D
