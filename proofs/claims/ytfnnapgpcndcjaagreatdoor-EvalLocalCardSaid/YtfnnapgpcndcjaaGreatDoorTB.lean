/-
  A part of the proof of a law: see the text that states it.
-/
import Derived.Test.YtfnnapgpcndcjaaGreatDoorTA
import Derived.Test.YtfnnapgpcndcjaaGreatDoorVcB
import Derived.Test.YtfnnapgpcndcjaaGreatDoorVcC
set_option linter.all false
namespace Go.Am.Z.T
open Go
set_option maxRecDepth 100000
def toks:List qT3:=[[97],[98],[99],[100],[101]]
def vrs:List qT3:=[[83],[84],[85],[86]]
def lvs:List qT3:=[[112],[113],[114],[115],[116]]
theorem name_run:(toks++vrs++lvs).all (fun x=>isB true (callF PP orc 60 96 [.tv [] .str x] []))=true:=by decide +kernel
theorem pat_run:toks.all (fun x=>isB true (callF PP orc 60 97 [.tv [] tPat (x,([],(false,())))] []))=true:=by decide +kernel
theorem act_run:isB true (callF PP orc 60 98 [.tv [] .str []] [])=true:=by decide +kernel
theorem name_ev {x:List Int} (h:x∈toks∨x∈vrs∨x∈lvs):E 96 [.tv [] .str x] [] (.tv [] .bool true) [] :=
 ev_call (isB_ok (List.all_eq_true.1 name_run x (by simp only [List.mem_append];rcases h with h | h | h <;> simp [h])))
theorem pat_ev {x:List Int} (h:x∈toks):E 97 [.tv [] tPat (x,([],(false,())))] [] (.tv [] .bool true) []:=ev_call (isB_ok (List.all_eq_true.1 pat_run x h))
theorem act_ev:E 98 [.tv [] .str []] [] (.tv [] .bool true) []:=ev_call (isB_ok act_run)
theorem once_ev (l:List qT3) (hl:l.length≤1000) (hx:∀ x∈l,x∈toks∨x∈vrs∨x∈lvs) (hd:l.Nodup):E 99 [.tv [] (.slice .str) l] [] (.tv [] .bool true) []:=by
 refine ev_of (vc99 l _ ?_)
 refine ⟨fun i=>∃ k:Nat,i=k∧k≤l.length,fun i=>(l.length-i).toNat,⟨0,rfl,by omega⟩,?_⟩
 rintro _ ⟨k,rfl,hk⟩
 refine ⟨fun h=>?_,fun h=>⟨rfl,tr0⟩⟩
 (simp only [dq1,dq2,dq3,dq4] at h)
 have hk':k<l.length:=by omega
 simp only [Int.toNat_natCast]
 refine ⟨⟨by omega⟩,_,⟨name_ev (hx _ (getD_mem' _ hk'))⟩,fun h=>by simp at h,fun _=>?_⟩
 refine ⟨fun i=>∃ j:Nat,i=j∧j≤k,fun i=>(k-i).toNat,⟨0,rfl,by omega⟩,?_⟩
 rintro _ ⟨j,rfl,hj⟩
 refine ⟨fun h=>?_,fun h=>⟨⟨by omega⟩,⟨k+1,by omega,by omega⟩,⟨by ((try dsimp only);omega)⟩⟩⟩
 (simp only [dq1,dq2,dq3,dq4] at h)
 have hj':j<l.length:=by omega
 simp only [Int.toNat_natCast]
 refine ⟨⟨by omega⟩,⟨by omega⟩,fun h2=>?_,fun h2=>⟨⟨by omega⟩,⟨j+1,by omega,by omega⟩,⟨by ((try dsimp only);omega)⟩⟩⟩
 (simp only [dq1,dq2,dq3,dq4] at h2)
 exfalso
 simp only [List.getD_eq_getElem?_getD,List.getElem?_eq_getElem hj',List.getElem?_eq_getElem hk',Option.getD_some] at h2
 exact (List.pairwise_iff_getElem.1 hd) j k hj' hk' (by omega) h2
structure GoodG (t:List Tk) (l:List Lv) (st:List Int) (r:List Rl):Prop where
  tn:t.length≤5
  tok:∀ x∈t,x.1∈toks∧x.2.1=(x.1,[],false,())
  tnd:(t.map (·.1)).Nodup
  ln:l.length≤5
  lev:∀ x∈l,1≤x.1∧x.1≤3∧x.2.1≠[]
  lnm:∀ s∈l.flatMap (·.2.1),s∈toks∨s∈lvs
  lnd:(l.flatMap (·.2.1)).Nodup
  lnn:(l.flatMap (·.2.1)).length≤10
  rn:1≤r.length∧r.length≤24
  left:∀ x∈r,x.1∈vrs
  rlen:∀ x∈r,x.2.1.length≤8
  rnm:∀ x∈r,∀ s∈x.2.1,s∈t.map (·.1)∨s∈r.map (·.1)
  prec:∀ x∈r,x.2.2.1=[]∨(x.2.2.1∈lvs∧∃ y∈l,x.2.2.1∈y.2.1)
  act:∀ x∈r,x.2.2.2.1=[]
  stt:st∈vrs∧st∈r.map (·.1)
theorem GoodG.tname {t l st r} (h:GoodG t l st r) {s:List Int} (hs:s∈t.map (·.1)):s∈toks:=by
 obtain ⟨x,hx,rfl⟩:=List.mem_map.1 hs;exact (h.tok x hx).1
theorem GoodG.rname {t l st r} (h:GoodG t l st r) {s:List Int} (hs:s∈r.map (·.1)):s∈vrs:=by
 obtain ⟨x,hx,rfl⟩:=List.mem_map.1 hs;exact h.left x hx
theorem len_le_flat {α β:Type} (f:α→List β):∀ {l:List α} {x:α},x∈l→(f x).length≤(l.flatMap f).length
 | a::l,x,h=>by
  simp only [List.flatMap_cons,List.length_append]
  rcases List.mem_cons.1 h with rfl | h
  ·omega
  ·have:=len_le_flat f h;omega
theorem GoodG.names {t l st r} (h:GoodG t l st r) {x:Lv} (hx:x∈l):x.2.1.length≤1000:=by
 have:=len_le_flat (fun x:Lv=>x.2.1) hx
 have:=h.lnn
 omega
theorem take_len_flat {α β:Type} (f:α→List β) (l:List α) (k:Nat):((l.take k).flatMap f).length≤(l.flatMap f).length:=by
 have e:l.flatMap f=(l.take k).flatMap f++(l.drop k).flatMap f:=by rw [← List.flatMap_append,List.take_append_drop]
 rw [e,List.length_append];omega
theorem right_ev {t:List Tk} {l:List Lv} {st:List Int} {r:List Rl} (h:GoodG t l st r) (g:Nat):E 61 [gr t [] g l.length st r] (hLv g l) (.tv [] .bool true) (hLv g l):=by
  have htn:=h.tn
  have hln:=h.ln
  have hrn:=h.rn
  refine ev_of (vc61 t [] g l st r _ ?_)
  refine ⟨fun h1=>by (simp only [dq1,dq2,dq3,dq4] at h1);omega,fun _=>⟨fun h1=>by simp at h1,fun _=>⟨fun h1=>by (simp only [dq1,dq2,dq3,dq4] at h1);omega,fun _=>⟨fun h1=>by (simp only [dq1,dq2,dq3,dq4] at h1);omega,fun _=>⟨fun h1=>by (simp only [dq1,dq2,dq3,dq4] at h1);omega,fun _=>?_⟩⟩⟩⟩⟩
  refine ⟨_,⟨name_ev (.inr (.inl h.stt.1))⟩,fun h1=>by simp at h1,fun _=>?_⟩
  refine ⟨fun a i γ z=>∃ k:Nat,i=k∧k≤t.length∧a=(t.take k).map (·.1)∧γ=(g:Int)∧z=l,fun _ i _ _=>(t.length-i).toNat,⟨tr0⟩,⟨0,tr0,by omega,tr0,tr0,tr0⟩,?_⟩
  rintro _ _ _ z ⟨k,rfl,hk,rfl,rfl,rfl⟩
  refine ⟨fun h1=>?_,fun h1=>?_⟩
  · (simp only [dq1,dq2,dq3,dq4] at h1)
    have hk':k<t.length:=by omega
    have hm:t.getD k (([]:List Int),(([],([],(false,()))),()))∈t:=getD_mem' _ hk'
    have hts:t.take (k+1)=t.take k++[t.getD k (([]:List Int),(([],([],(false,()))),()))]:=take_snoc _ hk'
    simp only [Int.toNat_natCast]
    refine ⟨⟨by omega⟩,⟨by simp only [List.length_map,List.length_take,List.length_cons,List.length_nil,bigN];omega⟩,⟨by omega⟩,_,⟨by rw [(h.tok _ hm).2];exact pat_ev (h.tok _ hm).1⟩,fun h2=>by simp at h2,fun _=>⟨⟨by omega⟩,⟨tr0⟩,⟨k+1,by omega,by omega,by rw [hts,List.map_append];rfl,tr0,tr0⟩,⟨by ((try dsimp only);omega)⟩⟩⟩
  (simp only [dq1,dq2,dq3,dq4] at h1)
  have:k=t.length:=by omega
  subst this
  rw [List.take_length]
  refine ⟨fun i γ y=>i=0∧γ=(g:Int)∧y=z,fun _ _ _=>0,⟨tr0⟩,⟨tr0,by simp,tr0⟩,?_⟩
  rintro _ _ z ⟨rfl,rfl,rfl⟩
  refine ⟨fun h2=>by simp at h2,fun _=>?_⟩
  refine ⟨fun a i γ y=>∃ k:Nat,i=k∧k≤List.length z∧a=(z.take k).flatMap (fun x:Lv=>x.2.1)∧γ=(g:Int)∧y=z,fun _ i _ _=>((z.length:Int)-i).toNat,⟨tr0⟩,⟨0,tr0,by omega,tr0,by simp,tr0⟩,?_⟩
  rintro _ _ _ y ⟨k,rfl,hk,rfl,rfl,rfl⟩
  refine ⟨fun h1=>?_,fun h1=>?_⟩
  · (simp only [dq1,dq2,dq3,dq4] at h1)
    have hk':k<y.length:=by omega
    have hm:y.getD k ((0:Int),(([]:List qT3),()))∈y:=getD_mem' _ hk'
    have hts:y.take (k+1)=y.take k++[y.getD k ((0:Int),(([]:List qT3),()))]:=take_snoc _ hk'
    obtain ⟨q1,q2,q3⟩:=h.lev _ hm
    have hlen:=take_len_flat (fun x:Lv=>x.2.1) y k
    have hnn:=h.lnn
    have hnm:=h.names hm
    simp only [Int.toNat_natCast,Nat.zero_add]
    refine ⟨⟨by omega⟩,⟨tr0⟩,⟨hk'⟩,⟨by simp only [bigN];omega⟩,fun h2=>by (simp only [dq1,dq2,dq3,dq4] at h2);omega,fun _=>⟨fun h2=>by (simp only [dq1,dq2,dq3,dq4] at h2);omega,fun _=>⟨fun h2=>?_,fun _=>⟨⟨by omega⟩,⟨tr0⟩,⟨k+1,by omega,by omega,?_,tr0,tr0⟩,⟨by ((try dsimp only);omega)⟩⟩⟩⟩⟩
    · (simp only [dq1,dq2,dq3,dq4] at h2)
      exact absurd (List.length_eq_zero_iff.1 (by omega)) q3
    · rw [hts,List.flatMap_append];simp
  (simp only [dq1,dq2,dq3,dq4] at h1)
  have:k=y.length:=by omega
  subst this
  rw [List.take_length]
  refine ⟨fun i γ u=>∃ k:Nat,i=k∧k≤r.length∧γ=(g:Int)∧u=y,fun i _ _=>((r.length:Int)-i).toNat,⟨tr0⟩,⟨0,tr0,by omega,by simp,tr0⟩,?_⟩
  rintro _ _ u ⟨k,rfl,hk,rfl,rfl⟩
  refine ⟨fun h1=>?_,fun h1=>?_⟩
  · (simp only [dq1,dq2,dq3,dq4] at h1)
    have hk':k<r.length:=by omega
    have hm:r.getD k (([]:List Int),(([]:List qT3),(([]:List Int),(([]:List Int),()))))∈r:=getD_mem' _ hk'
    have a1:=h.left _ hm
    have a2:=h.rlen _ hm
    have a3:=h.rnm _ hm
    have a4:=h.prec _ hm
    have a5:=h.act _ hm
    simp only [Int.toNat_natCast]
    have a3':∀ s∈(List.getD r k (([]:List Int),(([]:List qT3),(([]:List Int),(([]:List Int),()))))).2.1,s∈toks∨s∈vrs∨s∈lvs:=fun s hs=>by
      rcases a3 s hs with q | q
      · exact .inl (h.tname q)
      · exact .inr (.inl (h.rname q))
    have act':E 98 [.tv [] .str (List.getD r k (([]:List Int),(([]:List qT3),(([]:List Int),(([]:List Int),()))))).2.2.2.1] [] (.tv [] .bool true) []:=by rw [a5];exact act_ev
    refine ⟨⟨by omega⟩,_,⟨name_ev (.inr (.inl a1))⟩,fun h2=>by simp at h2,fun _=>⟨fun h2=>by (simp only [dq1,dq2,dq3,dq4] at h2);omega,fun _=>⟨fun h2=>?_,fun h2=>?_⟩⟩⟩
    · have hne:(List.getD r k (([]:List Int),(([]:List qT3),(([]:List Int),(([]:List Int),()))))).2.2.1≠[]:=by simpa using h2
      refine ⟨_,⟨name_ev (.inr (.inr (a4.resolve_left hne).1))⟩,fun h3=>by simp at h3,fun _=>⟨_,⟨act'⟩,fun h3=>by simp at h3,fun _=>?_⟩⟩
      refine ⟨fun j b c d e γ w=>∃ q:Nat,j=q∧q≤(List.getD r k (([]:List Int),(([]:List qT3),(([]:List Int),(([]:List Int),()))))).2.1.length∧c=(List.getD r k (([]:List Int),(([]:List qT3),(([]:List Int),(([]:List Int),()))))).2.1∧γ=(g:Int)∧w=u,fun j _ _ _ _ _ _=>(((List.getD r k (([]:List Int),(([]:List qT3),(([]:List Int),(([]:List Int),()))))).2.1.length:Int)-j).toNat,⟨tr0⟩,⟨0,tr0,by omega,tr0,by simp,tr0⟩,?_⟩
      rintro _ b _ d e _ w ⟨j,rfl,hj,rfl,rfl,rfl⟩
      refine ⟨fun h3=>?_,fun h3=>⟨⟨by omega⟩,⟨tr0⟩,⟨k+1,by omega,by omega,tr0,tr0⟩,⟨by ((try dsimp only);omega)⟩⟩⟩
      (simp only [dq1,dq2,dq3,dq4] at h3)
      have hj':j<(List.getD r k (([]:List Int),(([]:List qT3),(([]:List Int),(([]:List Int),()))))).2.1.length:=by omega
      simp only [Int.toNat_natCast]
      exact ⟨⟨by omega⟩,_,⟨name_ev (a3' _ (getD_mem' _ hj'))⟩,fun h4=>by simp at h4,fun _=>⟨⟨by omega⟩,⟨tr0⟩,⟨j+1,by omega,by omega,tr0,tr0,tr0⟩,⟨by ((try dsimp only);omega)⟩⟩⟩
    · refine ⟨_,⟨act'⟩,fun h3=>by simp at h3,fun _=>?_⟩
      refine ⟨fun j b c d e γ w=>∃ q:Nat,j=q∧q≤(List.getD r k (([]:List Int),(([]:List qT3),(([]:List Int),(([]:List Int),()))))).2.1.length∧c=(List.getD r k (([]:List Int),(([]:List qT3),(([]:List Int),(([]:List Int),()))))).2.1∧γ=(g:Int)∧w=u,fun j _ _ _ _ _ _=>(((List.getD r k (([]:List Int),(([]:List qT3),(([]:List Int),(([]:List Int),()))))).2.1.length:Int)-j).toNat,⟨tr0⟩,⟨0,tr0,by omega,tr0,by simp,tr0⟩,?_⟩
      rintro _ b _ d e _ w ⟨j,rfl,hj,rfl,rfl,rfl⟩
      refine ⟨fun h3=>?_,fun h3=>⟨⟨by omega⟩,⟨tr0⟩,⟨k+1,by omega,by omega,tr0,tr0⟩,⟨by ((try dsimp only);omega)⟩⟩⟩
      (simp only [dq1,dq2,dq3,dq4] at h3)
      have hj':j<(List.getD r k (([]:List Int),(([]:List qT3),(([]:List Int),(([]:List Int),()))))).2.1.length:=by omega
      simp only [Int.toNat_natCast]
      exact ⟨⟨by omega⟩,_,⟨name_ev (a3' _ (getD_mem' _ hj'))⟩,fun h4=>by simp at h4,fun _=>⟨⟨by omega⟩,⟨tr0⟩,⟨j+1,by omega,by omega,tr0,tr0,tr0⟩,⟨by ((try dsimp only);omega)⟩⟩⟩
  (simp only [dq1,dq2,dq3,dq4] at h1)
  have hk2:k=r.length:=by omega
  refine ⟨_,⟨once_ev (t.map (·.1)) (by rw [List.length_map];omega) (fun s hs=>.inl (h.tname hs)) h.tnd⟩,fun _=>⟨_,⟨once_ev (u.flatMap fun x:Lv=>x.2.1) (by have:=h.lnn;omega) (fun s hs=>by rcases h.lnm s hs with q | q <;> simp [q]) h.lnd⟩,tr0⟩,fun h2=>by simp at h2⟩
end Go.Am.Z.T
