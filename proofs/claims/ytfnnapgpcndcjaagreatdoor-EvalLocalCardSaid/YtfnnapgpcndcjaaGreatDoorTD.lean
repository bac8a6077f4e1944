/-
  A part of the proof of a law: see the text that states it.
-/
import Derived.Test.YtfnnapgpcndcjaaGreatDoorTC
set_option linter.all false
namespace Go.Am.Z.T
open Go
set_option maxRecDepth 100000
abbrev nmA (a:Int):List Int:=cut [(97:Int),(98:Int),(99:Int),(100:Int),(101:Int)] (Int.toNat a) (Int.toNat (a+1))
abbrev nmV (a:Int):List Int:=cut [(83:Int),(84:Int),(85:Int),(86:Int)] (Int.toNat a) (Int.toNat (a+1))
abbrev nmL (a:Int):List Int:=cut [(112:Int),(113:Int),(114:Int),(115:Int),(116:Int)] (Int.toNat a) (Int.toNat (a+1))
theorem five {a:Int} (h0:0≤a) (h1:a<5):a=0∨a=1∨a=2∨a=3∨a=4:=by omega
theorem four {a:Int} (h0:0≤a) (h1:a<4):a=0∨a=1∨a=2∨a=3:=by omega
theorem nmA_tok {a:Int} (h0:0≤a) (h1:a<5):nmA a∈toks:=by rcases five h0 h1 with rfl | rfl | rfl | rfl | rfl <;> decide
theorem nmV_vr {a:Int} (h0:0≤a) (h1:a<4):nmV a∈vrs:=by rcases four h0 h1 with rfl | rfl | rfl | rfl <;> decide
theorem nmL_lv {a:Int} (h0:0≤a) (h1:a<5):nmL a∈lvs:=by rcases five h0 h1 with rfl | rfl | rfl | rfl | rfl <;> decide
theorem nmA_inj {a b:Int} (h0:0≤a) (h1:a<5) (h2:0≤b) (h3:b<5) (h:nmA a=nmA b):a=b:=by
 rcases five h0 h1 with rfl | rfl | rfl | rfl | rfl <;> rcases five h2 h3 with rfl | rfl | rfl | rfl | rfl <;> first | rfl | exact absurd h (by decide)
theorem tok_lv:∀ s∈toks,s ∉ lvs:=by decide +kernel
abbrev lv0:Lv:=((0:Int),(([]:List qT3),()))
abbrev fl (l:List Lv):List qT3:=l.flatMap fun x:Lv=>x.2.1
structure LvOK (N:Nat) (k:Int) (l:List Lv):Prop where
 len:l.length=N
 lev:∀ x∈l,1≤x.1∧x.1≤3∧x.2.1≠[]
 nm:∀ s∈fl l,s∈lvs∨∃ a:Int,0≤a∧a<k∧s=nmA a
 nd:(fl l).Nodup
 ln:((fl l).length:Int)≤N+k
 pr:∀ j:Nat,j<N→nmL j∈(l.getD j lv0).2.1
theorem lv1 {N:Nat} {l:List Lv} (hN:N≤5) (h:l.map (fun x:Lv=>x.2.1)=(List.range N).map fun j:Nat=>[nmL (j:Int)]) (hl:∀ x∈l,1≤x.1∧x.1≤3):LvOK N 0 l:=by
 have hlen:l.length=N:=by have:=congrArg List.length h;simpa using this
 have hf:fl l=(List.range N).map fun j:Nat=>nmL (j:Int):=by
  have e:fl l=(l.map fun x:Lv=>x.2.1).flatten:=by simp [fl,List.flatMap]
  rw [e,h]
  clear h hlen hl hN
  generalize List.range N=rr;induction rr with
  | nil=>rfl
  | cons a r ih=>simp only [List.map_cons,List.flatten_cons,ih];rfl
 have hget:∀ j,j<N→(l.getD j lv0).2.1=[nmL (j:Int)]:=fun j hj=>by
  have h1:(l.map (fun x:Lv=>x.2.1))[j]?=some ([nmL (j:Int)]):=by
   rw [h,List.getElem?_map,List.getElem?_range hj];rfl
  rw [List.getElem?_map] at h1
  obtain ⟨x,hx,e⟩:=Option.map_eq_some_iff.1 h1
  rw [List.getD_eq_getElem?_getD,hx];exact e
 refine ⟨hlen,fun x hx=>⟨(hl x hx).1,(hl x hx).2,?_⟩,fun s hs=>.inl ?_,?_,?_,fun j hj=>by rw [hget j hj];simp⟩
 ·obtain ⟨j,hj,rfl⟩:=List.mem_iff_getElem.1 hx
  have:=hget j (by omega)
  rw [List.getD_eq_getElem?_getD,List.getElem?_eq_getElem hj] at this
  intro e
  simp only [Option.getD_some] at this
  rw [e] at this
  cases this
 ·rw [hf] at hs
  obtain ⟨j,hj,rfl⟩:=List.mem_map.1 hs
  have:=List.mem_range.1 hj
  exact nmL_lv (by omega) (by omega)
 ·rw [hf]
  clear h hf hget hlen hl
  have:N=0∨N=1∨N=2∨N=3∨N=4∨N=5:=by omega
  rcases this with rfl | rfl | rfl | rfl | rfl | rfl <;> decide
 ·rw [hf];simp
theorem fl_set {s:List Int} {y:Lv}:∀ {l:List Lv} {j:Nat},j<l.length→y.2.1=(l.getD j lv0).2.1++[s]→(fl (l.set j y)).Perm (s::fl l)
 | x::l,0,_,hy=>by
  simp only [List.set_cons_zero,fl,List.flatMap_cons]
  have e:y.2.1=x.2.1++[s]:=hy
  rw [e,List.append_assoc]
  exact List.perm_middle
 | x::l,j+1,hj,hy=>by
  simp only [List.set_cons_succ,fl,List.flatMap_cons]
  have ih:=fl_set (s:=s) (y:=y) (l:=l) (j:=j) (by simpa using hj) (by simpa using hy)
  exact (List.Perm.append_left _ ih).trans List.perm_middle
theorem LvOK.same {N k l} (h:LvOK N k l):LvOK N (k+1) l:=⟨h.len,h.lev,fun s hs=>(h.nm s hs).imp_right fun ⟨a,h1,h2,h3⟩=>⟨a,h1,by omega,h3⟩,h.nd,by have:=h.ln;omega,h.pr⟩
theorem LvOK.set {N:Nat} {k:Int} {l:List Lv} (h:LvOK N k l) {j:Nat} (hj:j<N) (h0:0≤k) (h5:k<5) (y:Lv) (hy1:y.1=(l.getD j lv0).1) (hy:y.2.1=(l.getD j lv0).2.1++[nmA k]):LvOK N (k+1) (l.set j y):=by
 have hj':j<l.length:=by rw [h.len];exact hj
 have hp:=fl_set hj' hy
 have hm:l.getD j lv0∈l:=getD_mem' _ hj'
 refine ⟨by rw [List.length_set];exact h.len,fun x hx=>?_,fun s hs=>?_,?_,?_,fun i hi=>?_⟩
 ·rcases List.mem_or_eq_of_mem_set hx with hx | rfl
  ·exact h.lev x hx
  ·have:=h.lev _ hm
   rw [hy1,hy]
   exact ⟨this.1,this.2.1,by simp⟩
 ·rcases List.mem_cons.1 (hp.mem_iff.1 hs) with rfl | hs
  ·exact .inr ⟨k,h0,by omega,rfl⟩
  ·exact (h.nm s hs).imp_right fun ⟨a,h1,h2,h3⟩=>⟨a,h1,by omega,h3⟩
 ·refine hp.nodup_iff.2 (List.nodup_cons.2 ⟨fun hs=>?_,h.nd⟩)
  rcases h.nm _ hs with q | ⟨a,q1,q2,q3⟩
  ·exact tok_lv _ (nmA_tok h0 h5) q
  ·have:=nmA_inj h0 h5 q1 (by omega) q3
   omega
 ·have:=hp.length_eq
  have:=h.ln
  simp only [List.length_cons] at *
  omega
 ·have:=h.pr i hi
  simp only [List.getD_eq_getElem?_getD,List.getElem?_set] at this ⊢
  by_cases e:j=i
  ·subst e
   simp only [hj',if_true,Option.getD_some]
   rw [hy]
   exact List.mem_append_left _ (by simpa [List.getD_eq_getElem?_getD] using this)
  ·simp only [e,if_false]
   exact this
structure TkOK (k:Int) (t:List Tk):Prop where
  len:(t.length:Int)=k
  tok:∀ x∈t,∃ a:Int,0≤a∧a<k∧x.1=nmA a∧x.2.1=(x.1,[],false,())
  all:∀ a:Int,0≤a→a<k→nmA a∈t.map (·.1)
  nd:(t.map (·.1)).Nodup
theorem TkOK.nil:TkOK 0 []:=⟨rfl,by simp,fun a h1 h2=>by omega,by simp⟩
theorem TkOK.push {k t} (h:TkOK k t) (h0:0≤k) (h5:k<5):TkOK (k+1) (t++[(nmA k,((nmA k,([],(false,()))),()))]):=by
 refine ⟨by have:=h.len;simp;omega,fun x hx=>?_,fun a h1 h2=>?_,?_⟩
 ·rcases List.mem_append.1 hx with hx | hx
  ·obtain ⟨a,q1,q2,q3⟩:=h.tok x hx
   exact ⟨a,q1,by omega,q3⟩
  ·simp only [List.mem_singleton] at hx
   subst hx
   exact ⟨k,h0,by omega,rfl,rfl⟩
 ·rw [List.map_append]
  by_cases e:a=k
  ·subst e;simp
  ·exact List.mem_append_left _ (h.all a h1 (by omega))
 ·rw [List.map_append]
  refine List.nodup_append.2 ⟨h.nd,by simp,?_⟩
  intro s hs u hu e
  simp only [List.map_cons,List.map_nil,List.mem_singleton] at hu
  subst hu;subst e
  obtain ⟨x,hx,e⟩:=List.mem_map.1 hs
  obtain ⟨a,q1,q2,q3,_⟩:=h.tok x hx
  have:=nmA_inj h0 h5 q1 (by omega) (by rw [← q3];exact e.symm)
  omega
structure RlOK (T V:Int) (N:Nat) (r:List Rl):Prop where
 left:∀ x∈r,∃ v:Int,0≤v∧v<V∧x.1=nmV v
 rlen:∀ x∈r,x.2.1.length≤8
 rnm:∀ x∈r,∀ s∈x.2.1,(∃ a:Int,0≤a∧a<T∧s=nmA a)∨∃ v:Int,0≤v∧v<V∧s=nmV v
 prec:∀ x∈r,x.2.2.1=[]∨∃ j:Int,0≤j∧j<N∧x.2.2.1=nmL j
 act:∀ x∈r,x.2.2.2.1=[]
theorem RlOK.nil (T V:Int) (N:Nat):RlOK T V N []:=⟨by simp,by simp,by simp,by simp,by simp⟩
theorem RlOK.push {T V N r} (h:RlOK T V N r) (x:Rl) (h1:∃ v:Int,0≤v∧v<V∧x.1=nmV v) (h2:x.2.1.length≤8) (h3:∀ s∈x.2.1,(∃ a:Int,0≤a∧a<T∧s=nmA a)∨∃ v:Int,0≤v∧v<V∧s=nmV v)
  (h4:x.2.2.1=[]∨∃ j:Int,0≤j∧j<N∧x.2.2.1=nmL j) (h5:x.2.2.2.1=[]):RlOK T V N (r++[x]):=by
 have key:∀ {p:Rl→Prop},(∀ y∈r,p y)→p x→∀ y∈r++[x],p y:=fun a b y hy=>by
  rcases List.mem_append.1 hy with hy | hy
  ·exact a y hy
  ·simp only [List.mem_singleton] at hy;subst hy;exact b
 exact ⟨key h.left h1,key h.rlen h2,key h.rnm h3,key h.prec h4,key h.act h5⟩
theorem good {T V:Int} {N:Nat} {t:List Tk} {l:List Lv} {r:List Rl} (hT:T≤5) (hV:V≤4) (hV0:0<V) (hN:N≤5) (ht:TkOK T t) (hl:LvOK N T l) (hr:RlOK T V N r) (hv:∀ v:Int,0≤v→v<V→nmV v∈r.map (·.1)) (hn:r.length≤24):GoodG t l [83] r where
 tn:=by have:=ht.len;omega
 tok:=fun x hx=>by
  obtain ⟨a,h1,h2,h3,h4⟩:=ht.tok x hx
  exact ⟨by rw [h3];exact nmA_tok h1 (by omega),h4⟩
 tnd:=ht.nd
 ln:=by rw [hl.len];exact hN
 lev:=hl.lev
 lnm:=fun s hs=>by
  rcases hl.nm s hs with h | ⟨a,h1,h2,rfl⟩
  ·exact .inr h
  ·exact .inl (nmA_tok h1 (by omega))
 lnd:=hl.nd
 lnn:=by have:=hl.ln;simp only [fl] at this;omega
 rn:=⟨by
  have:=hv 0 (by omega) hV0
  cases r with
  | nil=>simp at this
  | cons=>simp,hn⟩
 left:=fun x hx=>by
  obtain ⟨v,h1,h2,h3⟩:=hr.left x hx
  rw [h3];exact nmV_vr h1 (by omega)
 rlen:=hr.rlen
 rnm:=fun x hx s hs=>by
  rcases hr.rnm x hx s hs with ⟨a,h1,h2,rfl⟩ | ⟨v,h1,h2,rfl⟩
  ·exact .inl (ht.all a h1 h2)
  ·exact .inr (hv v h1 h2)
 prec:=fun x hx=>by
  rcases hr.prec x hx with h | ⟨j,h1,h2,h3⟩
  ·exact .inl h
  ·refine .inr ⟨by rw [h3];exact nmL_lv h1 (by omega),l.getD j.toNat lv0,getD_mem' _ (by rw [hl.len];omega),?_⟩
   have:=hl.pr j.toNat (by omega)
   rw [h3]
   rw [Int.toNat_of_nonneg h1] at this
   exact this
 act:=hr.act
 stt:=⟨by decide,hv 0 (by omega) hV0⟩
end Go.Am.Z.T
