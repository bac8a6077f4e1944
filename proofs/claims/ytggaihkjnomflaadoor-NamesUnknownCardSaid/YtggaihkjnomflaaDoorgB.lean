/-
  A part of the proof of a law: see the text that states it.
-/
import Derived.Test.YtggaihkjnomflaaDoorAm4
import Derived.Test.YtggaihkjnomflaaDoorgVc1
set_option linter.all false
namespace Go.Am.G
open Go Go.Am.Pr
set_option maxRecDepth 100000
abbrev tLv:Ty:=.pair (.int .i64) (.pair (.slice .str) .unit)
abbrev Lv:=Int×List (List Int)×Unit
abbrev tPat:Ty:=.pair .str (.pair .str (.pair .bool .unit))
abbrev tTk:Ty:=.pair .str (.pair tPat .unit)
abbrev Tk:=List Int×(List Int×List Int×Bool×Unit)×Unit
abbrev tRl:Ty:=.pair .str (.pair (.slice .str) (.pair .str (.pair .str .unit)))
abbrev Rl:=List Int×List (List Int)×List Int×List Int×Unit
abbrev tGr:Ty:=.pair (.slice tTk) (.pair (.slice tPat) (.pair (.sref tLv) (.pair .str (.pair (.slice tRl) .unit))))
def toks:List (List Int):=[[97],[98],[99],[100],[101]]
def vrs:List (List Int):=[[83],[84],[85],[86]]
def lvs:List (List Int):=[[112],[113],[114],[115],[116]]
theorem getD_mem' {α:Type} {l:List α} (d:α) {n:Nat} (h:n<l.length):l.getD n d∈l:=by
 rw [List.getD_eq_getElem?_getD,List.getElem?_eq_getElem h,Option.getD_some];exact List.getElem_mem h
structure GoodG (t:List Tk) (l:List Lv) (st:List Int) (r:List Rl):Prop where
  tn:t.length≤5
  tok:∀ x∈t,x.1∈toks∧x.2.1=(x.1,[],false,())
  tnd:(t.map (·.1)).Nodup
  ln:l.length≤5
  lev:∀ x∈l,1≤x.1∧x.1≤3∧x.2.1≠[]
  lnm:∀ s∈l.flatMap (·.2.1),s∈toks∨s∈lvs
  lnd:(l.flatMap (·.2.1)).Nodup
  lnn:(l.flatMap (·.2.1)).length≤10
  rn:1≤r.length∧r.length≤24
  left:∀ x∈r,x.1∈vrs
  rlen:∀ x∈r,x.2.1.length≤8
  rnm:∀ x∈r,∀ s∈x.2.1,s∈t.map (·.1)∨s∈r.map (·.1)
  prec:∀ x∈r,x.2.2.1=[]∨(x.2.2.1∈lvs∧∃ y∈l,x.2.2.1∈y.2.1)
  act:∀ x∈r,x.2.2.2.1=[]
  stt:st∈vrs∧st∈r.map (·.1)
  hd:∀ x∈l,∃ s ts,x.2.1=s::ts∧s∈lvs∧∀ u∈ts,u∈toks
theorem GoodG.tname {t l st r} (h:GoodG t l st r) {s:List Int} (hs:s∈t.map (·.1)):s∈toks:=by
 obtain ⟨x,hx,rfl⟩:=List.mem_map.1 hs;exact (h.tok x hx).1
theorem GoodG.rname {t l st r} (h:GoodG t l st r) {s:List Int} (hs:s∈r.map (·.1)):s∈vrs:=by
 obtain ⟨x,hx,rfl⟩:=List.mem_map.1 hs;exact h.left x hx
theorem len_le_flat {α β:Type} (f:α→List β):∀ {l:List α} {x:α},x∈l→(f x).length≤(l.flatMap f).length
 | a::l,x,h=>by
  simp only [List.flatMap_cons,List.length_append]
  rcases List.mem_cons.1 h with rfl | h
  ·omega
  ·have:=len_le_flat f h;omega
abbrev nmA (a:Int):List Int:=cut [(97:Int),(98:Int),(99:Int),(100:Int),(101:Int)] (Int.toNat a) (Int.toNat (a+1))
abbrev nmV (a:Int):List Int:=cut [(83:Int),(84:Int),(85:Int),(86:Int)] (Int.toNat a) (Int.toNat (a+1))
abbrev nmL (a:Int):List Int:=cut [(112:Int),(113:Int),(114:Int),(115:Int),(116:Int)] (Int.toNat a) (Int.toNat (a+1))
theorem five {a:Int} (h0:0≤a) (h1:a<5):a=0∨a=1∨a=2∨a=3∨a=4:=by omega
theorem four {a:Int} (h0:0≤a) (h1:a<4):a=0∨a=1∨a=2∨a=3:=by omega
theorem nmA_tok {a:Int} (h0:0≤a) (h1:a<5):nmA a∈toks:=by rcases five h0 h1 with rfl | rfl | rfl | rfl | rfl <;> decide
theorem nmV_vr {a:Int} (h0:0≤a) (h1:a<4):nmV a∈vrs:=by rcases four h0 h1 with rfl | rfl | rfl | rfl <;> decide
theorem nmL_lv {a:Int} (h0:0≤a) (h1:a<5):nmL a∈lvs:=by rcases five h0 h1 with rfl | rfl | rfl | rfl | rfl <;> decide
theorem nmA_inj {a b:Int} (h0:0≤a) (h1:a<5) (h2:0≤b) (h3:b<5) (h:nmA a=nmA b):a=b:=by
 rcases five h0 h1 with rfl | rfl | rfl | rfl | rfl <;> rcases five h2 h3 with rfl | rfl | rfl | rfl | rfl <;> first | rfl | exact absurd h (by decide)
theorem tok_lv:∀ s∈toks,s ∉ lvs:=by decide +kernel
abbrev lv0:Lv:=((0:Int),(([]:List (List Int)),()))
abbrev fl (l:List Lv):List (List Int):=l.flatMap fun x:Lv=>x.2.1
structure LvOK (N:Nat) (k:Int) (l:List Lv):Prop where
 len:l.length=N
 lev:∀ x∈l,1≤x.1∧x.1≤3∧x.2.1≠[]
 nm:∀ s∈fl l,s∈lvs∨∃ a:Int,0≤a∧a<k∧s=nmA a
 nd:(fl l).Nodup
 ln:((fl l).length:Int)≤N+k
 pr:∀ j:Nat,j<N→nmL j∈(l.getD j lv0).2.1
 hd:∀ x∈l,∃ s ts,x.2.1=s::ts∧s∈lvs∧∀ u∈ts,u∈toks
theorem lv1 {N:Nat} {l:List Lv} (hN:N≤5) (h:l.map (fun x:Lv=>x.2.1)=(List.range N).map fun j:Nat=>[nmL (j:Int)]) (hl:∀ x∈l,1≤x.1∧x.1≤3):LvOK N 0 l:=by
 have hlen:l.length=N:=by have:=congrArg List.length h;simpa using this
 have hf:fl l=(List.range N).map fun j:Nat=>nmL (j:Int):=by
  have e:fl l=(l.map fun x:Lv=>x.2.1).flatten:=by simp [fl,List.flatMap]
  rw [e,h]
  clear h hlen hl hN
  generalize List.range N=rr;induction rr with
  | nil=>rfl
  | cons a r ih=>simp only [List.map_cons,List.flatten_cons,ih];rfl
 have hget:∀ j,j<N→(l.getD j lv0).2.1=[nmL (j:Int)]:=fun j hj=>by
  have h1:(l.map (fun x:Lv=>x.2.1))[j]?=some ([nmL (j:Int)]):=by
   rw [h,List.getElem?_map,List.getElem?_range hj];rfl
  rw [List.getElem?_map] at h1
  obtain ⟨x,hx,e⟩:=Option.map_eq_some_iff.1 h1
  rw [List.getD_eq_getElem?_getD,hx];exact e
 refine ⟨hlen,fun x hx=>⟨(hl x hx).1,(hl x hx).2,?_⟩,fun s hs=>.inl ?_,?_,?_,fun j hj=>by rw [hget j hj];simp,fun x hx=>?_⟩
 ·obtain ⟨j,hj,rfl⟩:=List.mem_iff_getElem.1 hx
  have:=hget j (by omega)
  rw [List.getD_eq_getElem?_getD,List.getElem?_eq_getElem hj] at this
  intro e
  simp only [Option.getD_some] at this
  rw [e] at this
  cases this
 ·rw [hf] at hs
  obtain ⟨j,hj,rfl⟩:=List.mem_map.1 hs
  have:=List.mem_range.1 hj
  exact nmL_lv (by omega) (by omega)
 ·rw [hf]
  clear h hf hget hlen hl
  have:N=0∨N=1∨N=2∨N=3∨N=4∨N=5:=by omega
  rcases this with rfl | rfl | rfl | rfl | rfl | rfl <;> decide
 ·rw [hf];simp
 ·obtain ⟨j,hj,rfl⟩:=List.mem_iff_getElem.1 hx
  have:=hget j (by omega)
  rw [List.getD_eq_getElem?_getD,List.getElem?_eq_getElem hj] at this
  exact ⟨_,[],this,nmL_lv (by omega) (by omega),nofun⟩
theorem fl_set {s:List Int} {y:Lv}:∀ {l:List Lv} {j:Nat},j<l.length→y.2.1=(l.getD j lv0).2.1++[s]→(fl (l.set j y)).Perm (s::fl l)
 | x::l,0,_,hy=>by
  simp only [List.set_cons_zero,fl,List.flatMap_cons]
  have e:y.2.1=x.2.1++[s]:=hy
  rw [e,List.append_assoc]
  exact List.perm_middle
 | x::l,j+1,hj,hy=>by
  simp only [List.set_cons_succ,fl,List.flatMap_cons]
  have ih:=fl_set (s:=s) (y:=y) (l:=l) (j:=j) (by simpa using hj) (by simpa using hy)
  exact (List.Perm.append_left _ ih).trans List.perm_middle
theorem LvOK.same {N k l} (h:LvOK N k l):LvOK N (k+1) l:=⟨h.len,h.lev,fun s hs=>(h.nm s hs).imp_right fun ⟨a,h1,h2,h3⟩=>⟨a,h1,by omega,h3⟩,h.nd,by have:=h.ln;omega,h.pr,h.hd⟩
theorem LvOK.set {N:Nat} {k:Int} {l:List Lv} (h:LvOK N k l) {j:Nat} (hj:j<N) (h0:0≤k) (h5:k<5) (y:Lv) (hy1:y.1=(l.getD j lv0).1) (hy:y.2.1=(l.getD j lv0).2.1++[nmA k]):LvOK N (k+1) (l.set j y):=by
 have hj':j<l.length:=by rw [h.len];exact hj
 have hp:=fl_set hj' hy
 have hm:l.getD j lv0∈l:=getD_mem' _ hj'
 refine ⟨by rw [List.length_set];exact h.len,fun x hx=>?_,fun s hs=>?_,?_,?_,fun i hi=>?_,fun x hx=>?_⟩
 ·rcases List.mem_or_eq_of_mem_set hx with hx | rfl
  ·exact h.lev x hx
  ·have:=h.lev _ hm
   rw [hy1,hy]
   exact ⟨this.1,this.2.1,by simp⟩
 ·rcases List.mem_cons.1 (hp.mem_iff.1 hs) with rfl | hs
  ·exact .inr ⟨k,h0,by omega,rfl⟩
  ·exact (h.nm s hs).imp_right fun ⟨a,h1,h2,h3⟩=>⟨a,h1,by omega,h3⟩
 ·refine hp.nodup_iff.2 (List.nodup_cons.2 ⟨fun hs=>?_,h.nd⟩)
  rcases h.nm _ hs with q | ⟨a,q1,q2,q3⟩
  ·exact tok_lv _ (nmA_tok h0 h5) q
  ·have:=nmA_inj h0 h5 q1 (by omega) q3
   omega
 ·have:=hp.length_eq
  have:=h.ln
  simp only [List.length_cons] at *
  omega
 ·have:=h.pr i hi
  simp only [List.getD_eq_getElem?_getD,List.getElem?_set] at this ⊢
  by_cases e:j=i
  ·subst e
   simp only [hj',if_true,Option.getD_some]
   rw [hy]
   exact List.mem_append_left _ (by simpa [List.getD_eq_getElem?_getD] using this)
  ·simp only [e,if_false]
   exact this
 ·rcases List.mem_or_eq_of_mem_set hx with hx | rfl
  ·exact h.hd x hx
  ·obtain ⟨s,ts,e,h1,h2⟩:=h.hd _ hm
   refine ⟨s,ts++[nmA k],by rw [hy,e];rfl,h1,fun u hu=>?_⟩
   rcases List.mem_append.1 hu with hu | hu
   ·exact h2 u hu
   ·rw [List.mem_singleton] at hu;subst hu;exact nmA_tok h0 h5
structure TkOK (k:Int) (t:List Tk):Prop where
  len:(t.length:Int)=k
  tok:∀ x∈t,∃ a:Int,0≤a∧a<k∧x.1=nmA a∧x.2.1=(x.1,[],false,())
  all:∀ a:Int,0≤a→a<k→nmA a∈t.map (·.1)
  nd:(t.map (·.1)).Nodup
theorem TkOK.nil:TkOK 0 []:=⟨rfl,by simp,fun a h1 h2=>by omega,by simp⟩
theorem TkOK.push {k t} (h:TkOK k t) (h0:0≤k) (h5:k<5):TkOK (k+1) (t++[(nmA k,((nmA k,([],(false,()))),()))]):=by
 refine ⟨by have:=h.len;simp;omega,fun x hx=>?_,fun a h1 h2=>?_,?_⟩
 ·rcases List.mem_append.1 hx with hx | hx
  ·obtain ⟨a,q1,q2,q3⟩:=h.tok x hx
   exact ⟨a,q1,by omega,q3⟩
  ·simp only [List.mem_singleton] at hx
   subst hx
   exact ⟨k,h0,by omega,rfl,rfl⟩
 ·rw [List.map_append]
  by_cases e:a=k
  ·subst e;simp
  ·exact List.mem_append_left _ (h.all a h1 (by omega))
 ·rw [List.map_append]
  refine List.nodup_append.2 ⟨h.nd,by simp,?_⟩
  intro s hs u hu e
  simp only [List.map_cons,List.map_nil,List.mem_singleton] at hu
  subst hu;subst e
  obtain ⟨x,hx,e⟩:=List.mem_map.1 hs
  obtain ⟨a,q1,q2,q3,_⟩:=h.tok x hx
  have:=nmA_inj h0 h5 q1 (by omega) (by rw [← q3];exact e.symm)
  omega
structure RlOK (B:Nat) (T V:Int) (N:Nat) (r:List Rl):Prop where
 left:∀ x∈r,∃ v:Int,0≤v∧v<V∧x.1=nmV v
 rlen:∀ x∈r,x.2.1.length≤B
 rnm:∀ x∈r,∀ s∈x.2.1,(∃ a:Int,0≤a∧a<T∧s=nmA a)∨∃ v:Int,0≤v∧v<V∧s=nmV v
 prec:∀ x∈r,x.2.2.1=[]∨∃ j:Int,0≤j∧j<N∧x.2.2.1=nmL j
 act:∀ x∈r,x.2.2.2.1=[]
theorem RlOK.nil (B:Nat) (T V:Int) (N:Nat):RlOK B T V N []:=⟨by simp,by simp,by simp,by simp,by simp⟩
theorem RlOK.push {B T V N r} (h:RlOK B T V N r) (x:Rl) (h1:∃ v:Int,0≤v∧v<V∧x.1=nmV v) (h2:x.2.1.length≤B) (h3:∀ s∈x.2.1,(∃ a:Int,0≤a∧a<T∧s=nmA a)∨∃ v:Int,0≤v∧v<V∧s=nmV v)
  (h4:x.2.2.1=[]∨∃ j:Int,0≤j∧j<N∧x.2.2.1=nmL j) (h5:x.2.2.2.1=[]):RlOK B T V N (r++[x]):=by
 have key:∀ {p:Rl→Prop},(∀ y∈r,p y)→p x→∀ y∈r++[x],p y:=fun a b y hy=>by
  rcases List.mem_append.1 hy with hy | hy
  ·exact a y hy
  ·simp only [List.mem_singleton] at hy;subst hy;exact b
 exact ⟨key h.left h1,key h.rlen h2,key h.rnm h3,key h.prec h4,key h.act h5⟩
theorem good {B:Nat} {T V:Int} (hB8:B≤8) {N:Nat} {t:List Tk} {l:List Lv} {r:List Rl} (hT:T≤5) (hV:V≤4) (hV0:0<V) (hN:N≤5) (ht:TkOK T t) (hl:LvOK N T l) (hr:RlOK B T V N r) (hv:∀ v:Int,0≤v→v<V→nmV v∈r.map (·.1)) (hn:r.length≤24):GoodG t l [83] r where
 tn:=by have:=ht.len;omega
 tok:=fun x hx=>by
  obtain ⟨a,h1,h2,h3,h4⟩:=ht.tok x hx
  exact ⟨by rw [h3];exact nmA_tok h1 (by omega),h4⟩
 tnd:=ht.nd
 ln:=by rw [hl.len];exact hN
 lev:=hl.lev
 lnm:=fun s hs=>by
  rcases hl.nm s hs with h | ⟨a,h1,h2,rfl⟩
  ·exact .inr h
  ·exact .inl (nmA_tok h1 (by omega))
 lnd:=hl.nd
 lnn:=by have:=hl.ln;simp only [fl] at this;omega
 rn:=⟨by
  have:=hv 0 (by omega) hV0
  cases r with
  | nil=>simp at this
  | cons=>simp,hn⟩
 left:=fun x hx=>by
  obtain ⟨v,h1,h2,h3⟩:=hr.left x hx
  rw [h3];exact nmV_vr h1 (by omega)
 rlen:=fun x hx=>Nat.le_trans (hr.rlen x hx) hB8
 rnm:=fun x hx s hs=>by
  rcases hr.rnm x hx s hs with ⟨a,h1,h2,rfl⟩ | ⟨v,h1,h2,rfl⟩
  ·exact .inl (ht.all a h1 h2)
  ·exact .inr (hv v h1 h2)
 prec:=fun x hx=>by
  rcases hr.prec x hx with h | ⟨j,h1,h2,h3⟩
  ·exact .inl h
  ·refine .inr ⟨by rw [h3];exact nmL_lv h1 (by omega),l.getD j.toNat lv0,getD_mem' _ (by rw [hl.len];omega),?_⟩
   have:=hl.pr j.toNat (by omega)
   rw [h3]
   rw [Int.toNat_of_nonneg h1] at this
   exact this
 act:=hr.act
 stt:=⟨by decide,hv 0 (by omega) hV0⟩
 hd:=hl.hd
theorem tm {x n:Int} (hx:0≤x) (hn:0<n):0≤Int.tmod x n∧Int.tmod x n<n:=by
 rw [Int.tmod_eq_emod_of_nonneg hx];exact ⟨Int.emod_nonneg _ (by omega),Int.emod_lt_of_pos _ hn⟩
def isBy (z:Int):Prop:=0≤z∧z<256
abbrev tSm:Ty:=.pair (.int .u8) (.pair (.int .u8) (.pair qt3 (.pair (.slice qt3) (.pair qt3 (.pair qt3 (.pair qt3 .unit))))))
abbrev Sml:=Int×Int×List Int×List (List Int)×List Int×List Int×List Int×Unit
structure SmOK (s:Sml):Prop where
 b0:isBy s.1
 b1:isBy s.2.1
 b2:∀ x∈s.2.2.1,isBy x
 b3:∀ l∈s.2.2.2.1,∀ x∈l,isBy x
 b4:∀ x∈s.2.2.2.2.1,isBy x
 b5:∀ x∈s.2.2.2.2.2.1,isBy x
 b6:∀ x∈s.2.2.2.2.2.2.1,isBy x
 n2:s.2.2.1.length≤20
 n5:s.2.2.2.2.2.1.length≤5
 n3:∀ l∈s.2.2.2.1,l.length≤8
abbrev grO (t:List Tk) (g n:Nat) (st:List Int) (r:List Rl):AV:=.tv [] tGr (t,([],(some ((1,0),g,0,n),(st,(r,())))))
abbrev hLv1 (g:Nat) (l:List Lv):Heap:=[((1,0),⟨⟨.arr (Nat.succ g) l.length tLv,l⟩,[]⟩)]
theorem gram_ev (s:Sml) (h:SmOK s) (B:Nat) (hB8:B≤8) (hB:∀ l∈s.2.2.2.1,l.length≤B):∃ t l r g,(GoodG t l [83] r∧∀ x∈r,x.2.1.length≤B)∧E 16 [.tv [] tSm s] [] (grO t g l.length [83] r) (hLv1 g l):=by
  obtain ⟨x0,x1,a2,a3,a4,a5,a6,_⟩:=s
  obtain ⟨b0,b1,b2,b3,b4,b5,b6,n2,n5,n3⟩:=h
  clear n3
  have n3:=hB
  simp only at b0 b1 b2 b3 b4 b5 b6 n2 n5 n3
  unfold isBy at b0 b1
  have m0:=tm (n:=5) b0.1 (by omega)
  have m1:=tm (n:=4) b1.1 (by omega)
  have key:EvF PP orc 16 [.tv [] tSm (x0,x1,a2,a3,a4,a5,a6,())] [] fun a h'=>∃ t l r g,(GoodG t l [83] r∧∀ x∈r,x.2.1.length≤B)∧a=grO t g l.length [83] r∧h'=hLv1 g l:=by
    refine vc16 x0 x1 a2 a3 a4 a5 a6 _ ?_
    (repeat (refine And.intro (Need.mk (by first | omega | (intro hh;exact hh.2 ⟨by omega,by omega,by omega⟩) | (intro hh;cases hh.1;done) | exact ⟨by omega,by omega,by omega⟩ | (simp only [List.length_append,List.length_cons,List.length_nil,bigN];omega) | trivial | exact rfl | exact ⟨rfl,rfl⟩ | exact ⟨rfl,rfl,rfl⟩ | exact ⟨rfl,rfl,rfl,rfl⟩ | ((repeat' apply And.intro) <;> first | rfl | omega | (simp only [List.length_append,List.length_cons,List.length_nil,bigN];omega) | (simp;done) | (simp;omega)))) ?_))
    refine ⟨fun i t sk γl n st r _ _ γ l _ _=>∃ Γ:Nat,i=(l.length:Int)∧l.length≤a5.length∧t=[]∧sk=[]∧γl=(Γ:Int)∧n=(l.length:Int)∧st=[83]∧r=[]∧γ=(Γ:Int)∧l.map (fun x:Lv=>x.2.1)=((List.range l.length).map fun j:Nat=>[nmL (j:Int)])∧∀ x∈l,1≤x.1∧x.1≤3,
      fun i _ _ _ _ _ _ _ _ _ _ _ _=>((a5.length:Int)-i).toNat,⟨(by first | trivial | exact rfl | exact ⟨rfl,rfl⟩ | omega)⟩,⟨0,rfl,by simp,rfl,rfl,rfl,rfl,rfl,rfl,rfl,rfl,by simp⟩,?_⟩
    rintro _ _ _ _ _ _ _ u1 u2 _ l u3 u4 ⟨Γ,rfl,hk,rfl,rfl,rfl,rfl,rfl,rfl,rfl,hm,hl⟩
    refine ⟨fun h1=>?_,fun h1=>?_⟩
    · (simp only [decide_eq_true_eq,decide_eq_false_iff_not,Bool.not_eq_true',Bool.not_eq_false'] at h1)
      have hk':l.length<a5.length:=by omega
      have hb:isBy (List.getD a5 (Int.toNat (l.length:Int)) (0:Int)):=b5 _ (getD_mem' _ (by simpa using hk'))
      unfold isBy at hb
      have m3:=tm (n:=3) hb.1 (by omega)
      have ht:List.take (Int.toNat (l.length:Int)) l=l:=by simp
      rw [ht]
      (repeat (refine And.intro (Need.mk (by first | omega | (intro hh;exact hh.2 ⟨by omega,by omega,by omega⟩) | (intro hh;cases hh.1;done) | exact ⟨by omega,by omega,by omega⟩ | (simp only [List.length_append,List.length_cons,List.length_nil,bigN];omega) | trivial | exact rfl | exact ⟨rfl,rfl⟩ | exact ⟨rfl,rfl,rfl⟩ | exact ⟨rfl,rfl,rfl,rfl⟩ | ((repeat' apply And.intro) <;> first | rfl | omega | (simp only [List.length_append,List.length_cons,List.length_nil,bigN];omega) | (simp;done) | (simp;omega)))) ?_))
      refine And.intro ⟨Nat.succ Γ,by simp,by simp only [List.length_append,List.length_cons,List.length_nil];omega,rfl,rfl,rfl,by simp,rfl,rfl,rfl,?_,?_⟩ (Need.mk (by ((try dsimp only);omega)))
      · rw [List.map_append,hm,List.length_append,List.length_singleton,List.range_succ,List.map_append];rfl
      · intro x hx
        rcases List.mem_append.1 hx with hx | hx
        · exact hl x hx
        · simp only [List.mem_singleton] at hx;rw [hx];simp only;omega
    (simp only [decide_eq_true_eq,decide_eq_false_iff_not,Bool.not_eq_true',Bool.not_eq_false'] at h1)
    have hN:l.length≤5:=by omega
    have L1:=lv1 hN hm hl
    generalize l.length=N at *
    clear hm hl
    refine ⟨fun i t sk γl n st r _ _ γ l _ _=>∃ Γ:Nat,0≤i∧i≤Int.tmod x0 5+1∧TkOK i t∧sk=[]∧γl=(Γ:Int)∧n=(N:Int)∧st=[83]∧r=[]∧γ=(Γ:Int)∧LvOK N i l,
      fun i _ _ _ _ _ _ _ _ _ _ _ _=>(Int.tmod x0 5+1-i).toNat,⟨(by first | trivial | exact rfl | exact ⟨rfl,rfl⟩ | omega)⟩,⟨Γ,by omega,by omega,TkOK.nil,(by first | trivial | exact rfl | exact ⟨rfl,rfl⟩ | omega),(by first | trivial | exact rfl | exact ⟨rfl,rfl⟩ | omega),(by first | trivial | exact rfl | exact ⟨rfl,rfl⟩ | omega),(by first | trivial | exact rfl | exact ⟨rfl,rfl⟩ | omega),(by first | trivial | exact rfl | exact ⟨rfl,rfl⟩ | omega),(by first | trivial | exact rfl | exact ⟨rfl,rfl⟩ | omega),L1⟩,?_⟩
    clear L1
    rintro i t _ _ _ _ _ u1 u2 _ l u3 u4 ⟨Γ,hi0,hi1,ht,rfl,rfl,rfl,rfl,rfl,rfl,L⟩
    have hlen:=L.len
    refine ⟨fun h1=>?_,fun h1=>?_⟩
    · (simp only [decide_eq_true_eq,decide_eq_false_iff_not,Bool.not_eq_true',Bool.not_eq_false'] at h1)
      have htl:=ht.len
      (repeat (refine And.intro (Need.mk (by first | omega | (intro hh;exact hh.2 ⟨by omega,by omega,by omega⟩) | (intro hh;cases hh.1;done) | exact ⟨by omega,by omega,by omega⟩ | (simp only [List.length_append,List.length_cons,List.length_nil,bigN];omega) | trivial | exact rfl | exact ⟨rfl,rfl⟩ | exact ⟨rfl,rfl,rfl⟩ | exact ⟨rfl,rfl,rfl,rfl⟩ | ((repeat' apply And.intro) <;> first | rfl | omega | (simp only [List.length_append,List.length_cons,List.length_nil,bigN];omega) | (simp;done) | (simp;omega)))) ?_))
      have TP:=ht.push hi0 (by omega)
      refine ⟨fun h2=>?_,fun h2=>?_⟩
      · (simp only [decide_eq_true_eq,decide_eq_false_iff_not,Bool.not_eq_true',Bool.not_eq_false'] at h2)
        have hb:isBy (List.getD a6 (Int.toNat i) (0:Int)):=b6 _ (getD_mem' _ (by omega))
        unfold isBy at hb
        have m6:=tm (n:=(((Int.toNat (N:Int)):Nat):Int)+1) hb.1 (by omega)
        (repeat (refine And.intro (Need.mk (by first | omega | (intro hh;exact hh.2 ⟨by omega,by omega,by omega⟩) | (intro hh;cases hh.1;done) | exact ⟨by omega,by omega,by omega⟩ | (simp only [List.length_append,List.length_cons,List.length_nil,bigN];omega) | trivial | exact rfl | exact ⟨rfl,rfl⟩ | exact ⟨rfl,rfl,rfl⟩ | exact ⟨rfl,rfl,rfl,rfl⟩ | ((repeat' apply And.intro) <;> first | rfl | omega | (simp only [List.length_append,List.length_cons,List.length_nil,bigN];omega) | (simp;done) | (simp;omega)))) ?_))
        refine ⟨fun h3=>?_,fun h3=>?_⟩
        · (simp only [decide_eq_true_eq,decide_eq_false_iff_not,Bool.not_eq_true',Bool.not_eq_false'] at h3)
          have hq:(List.getD l (0+(Int.toNat ((Int.tmod (List.getD a6 (Int.toNat i) (0:Int)) (((Int.toNat (N:Int)):Int)+(1:Int)))-(1:Int)))) ((0:Int),([],()))).2.1.length≤20:=by
            have h1:=len_le_flat (fun x:Lv=>x.2.1) (getD_mem' (l:=l) ((0:Int),(([]:List (List Int)),())) (n:=(0+(Int.toNat ((Int.tmod (List.getD a6 (Int.toNat i) (0:Int)) (((Int.toNat (N:Int)):Int)+(1:Int)))-(1:Int))))) (by omega))
            have h2:=L.ln
            simp only [fl] at h2
            omega
          (repeat (refine And.intro (Need.mk (by first | omega | (intro hh;exact hh.2 ⟨by omega,by omega,by omega⟩) | (intro hh;cases hh.1;done) | exact ⟨by omega,by omega,by omega⟩ | (simp only [List.length_append,List.length_cons,List.length_nil,bigN];omega) | trivial | exact rfl | exact ⟨rfl,rfl⟩ | exact ⟨rfl,rfl,rfl⟩ | exact ⟨rfl,rfl,rfl,rfl⟩ | ((repeat' apply And.intro) <;> first | rfl | omega | (simp only [List.length_append,List.length_cons,List.length_nil,bigN];omega) | (simp;done) | (simp;omega)))) ?_))
          exact And.intro ⟨Γ,by omega,by omega,TP,(by first | trivial | exact rfl | exact ⟨rfl,rfl⟩ | omega),(by first | trivial | exact rfl | exact ⟨rfl,rfl⟩ | omega),(by first | trivial | exact rfl | exact ⟨rfl,rfl⟩ | omega),(by first | trivial | exact rfl | exact ⟨rfl,rfl⟩ | omega),(by first | trivial | exact rfl | exact ⟨rfl,rfl⟩ | omega),(by first | trivial | exact rfl | exact ⟨rfl,rfl⟩ | omega),L.set (j:=(0+(Int.toNat ((Int.tmod (List.getD a6 (Int.toNat i) (0:Int)) (((Int.toNat (N:Int)):Int)+(1:Int)))-(1:Int))))) (by omega) hi0 (by omega) _ rfl rfl⟩ (Need.mk (by ((try dsimp only);omega)))
        · (repeat (refine And.intro (Need.mk (by first | omega | (intro hh;exact hh.2 ⟨by omega,by omega,by omega⟩) | (intro hh;cases hh.1;done) | exact ⟨by omega,by omega,by omega⟩ | (simp only [List.length_append,List.length_cons,List.length_nil,bigN];omega) | trivial | exact rfl | exact ⟨rfl,rfl⟩ | exact ⟨rfl,rfl,rfl⟩ | exact ⟨rfl,rfl,rfl,rfl⟩ | ((repeat' apply And.intro) <;> first | rfl | omega | (simp only [List.length_append,List.length_cons,List.length_nil,bigN];omega) | (simp;done) | (simp;omega)))) ?_))
          exact And.intro ⟨Γ,by omega,by omega,TP,(by first | trivial | exact rfl | exact ⟨rfl,rfl⟩ | omega),(by first | trivial | exact rfl | exact ⟨rfl,rfl⟩ | omega),(by first | trivial | exact rfl | exact ⟨rfl,rfl⟩ | omega),(by first | trivial | exact rfl | exact ⟨rfl,rfl⟩ | omega),(by first | trivial | exact rfl | exact ⟨rfl,rfl⟩ | omega),(by first | trivial | exact rfl | exact ⟨rfl,rfl⟩ | omega),L.same⟩ (Need.mk (by ((try dsimp only);omega)))
      · (repeat (refine And.intro (Need.mk (by first | omega | (intro hh;exact hh.2 ⟨by omega,by omega,by omega⟩) | (intro hh;cases hh.1;done) | exact ⟨by omega,by omega,by omega⟩ | (simp only [List.length_append,List.length_cons,List.length_nil,bigN];omega) | trivial | exact rfl | exact ⟨rfl,rfl⟩ | exact ⟨rfl,rfl,rfl⟩ | exact ⟨rfl,rfl,rfl,rfl⟩ | ((repeat' apply And.intro) <;> first | rfl | omega | (simp only [List.length_append,List.length_cons,List.length_nil,bigN];omega) | (simp;done) | (simp;omega)))) ?_))
        exact And.intro ⟨Γ,by omega,by omega,TP,(by first | trivial | exact rfl | exact ⟨rfl,rfl⟩ | omega),(by first | trivial | exact rfl | exact ⟨rfl,rfl⟩ | omega),(by first | trivial | exact rfl | exact ⟨rfl,rfl⟩ | omega),(by first | trivial | exact rfl | exact ⟨rfl,rfl⟩ | omega),(by first | trivial | exact rfl | exact ⟨rfl,rfl⟩ | omega),(by first | trivial | exact rfl | exact ⟨rfl,rfl⟩ | omega),L.same⟩ (Need.mk (by ((try dsimp only);omega)))
    (simp only [decide_eq_true_eq,decide_eq_false_iff_not,Bool.not_eq_true',Bool.not_eq_false'] at h1)
    obtain rfl:i=Int.tmod x0 5+1:=by omega
    clear hi0 hi1 h1
    have hT:Int.tmod x0 5+1≤5:=by omega
    have hT0:0<Int.tmod x0 5+1:=by omega
    have hV:Int.tmod x1 4+1≤4:=by omega
    have hV0:0<Int.tmod x1 4+1:=by omega
    refine ⟨fun i t' sk γl n st r _ _ γ l' _ _=>∃ Γ:Nat,i=(r.length:Int)∧r.length≤a2.length∧t'=t∧sk=[]∧γl=(Γ:Int)∧n=(N:Int)∧st=[83]∧γ=(Γ:Int)∧l'=l∧RlOK B (Int.tmod x0 5+1) (Int.tmod x1 4+1) N r,
      fun i _ _ _ _ _ _ _ _ _ _ _ _=>((a2.length:Int)-i).toNat,⟨(by first | trivial | exact rfl | exact ⟨rfl,rfl⟩ | omega)⟩,⟨Γ,(by first | trivial | exact rfl | exact ⟨rfl,rfl⟩ | omega),by simp,(by first | trivial | exact rfl | exact ⟨rfl,rfl⟩ | omega),(by first | trivial | exact rfl | exact ⟨rfl,rfl⟩ | omega),(by first | trivial | exact rfl | exact ⟨rfl,rfl⟩ | omega),(by first | trivial | exact rfl | exact ⟨rfl,rfl⟩ | omega),(by first | trivial | exact rfl | exact ⟨rfl,rfl⟩ | omega),(by first | trivial | exact rfl | exact ⟨rfl,rfl⟩ | omega),(by first | trivial | exact rfl | exact ⟨rfl,rfl⟩ | omega),RlOK.nil _ _ _ _⟩,?_⟩
    rintro _ t _ _ _ _ r u1 u2 _ l u3 u4 ⟨Γ,rfl,hk,rfl,rfl,rfl,rfl,rfl,rfl,rfl,R⟩
    refine ⟨fun h1=>?_,fun h1=>?_⟩
    · (simp only [decide_eq_true_eq,decide_eq_false_iff_not,Bool.not_eq_true',Bool.not_eq_false'] at h1)
      have hb:isBy (List.getD a2 (Int.toNat (r.length:Int)) (0:Int)):=b2 _ (getD_mem' _ (by omega))
      unfold isBy at hb
      have mL:=tm (n:=Int.tmod x1 4+1) hb.1 hV0
      (repeat (refine And.intro (Need.mk (by first | omega | (intro hh;exact hh.2 ⟨by omega,by omega,by omega⟩) | (intro hh;cases hh.1;done) | exact ⟨by omega,by omega,by omega⟩ | (simp only [List.length_append,List.length_cons,List.length_nil,bigN];omega) | trivial | exact rfl | exact ⟨rfl,rfl⟩ | exact ⟨rfl,rfl,rfl⟩ | exact ⟨rfl,rfl,rfl,rfl⟩ | ((repeat' apply And.intro) <;> first | rfl | omega | (simp only [List.length_append,List.length_cons,List.length_nil,bigN];omega) | (simp;done) | (simp;omega)))) ?_))
      have fin : ∀ (rt : List (List Int)) (pc : List Int), rt.length ≤ B → (∀ s ∈ rt, (∃ a : Int, 0 ≤ a ∧ a < Int.tmod x0 5 + 1 ∧ s = nmA a) ∨ ∃ v : Int, 0 ≤ v ∧ v < Int.tmod x1 4 + 1 ∧ s = nmV v) → (pc = [] ∨ ∃ j : Int, 0 ≤ j ∧ j < N ∧ pc = nmL j) →
          RlOK B (Int.tmod x0 5+1) (Int.tmod x1 4+1) N (r++[(nmV (Int.tmod (List.getD a2 (Int.toNat (r.length:Int)) (0:Int)) (Int.tmod x1 4+1)),(rt,(pc,([],()))))]):=fun rt pc q1 q2 q3 =>
        R.push _ ⟨_,mL.1,mL.2,rfl⟩ q1 q2 q3 rfl
      refine ⟨fun h2=>?_,fun h2=>?_⟩
      · (simp only [decide_eq_true_eq,decide_eq_false_iff_not,Bool.not_eq_true',Bool.not_eq_false'] at h2)
        have h3l:(List.getD a3 (Int.toNat (r.length:Int)) []).length≤B:=n3 _ (getD_mem' _ (by omega))
        refine ⟨fun j lf rt pc ac t' sk γl n st r' _ _ γ l' _ _ => j = (rt.length : Int) ∧ rt.length ≤ (List.getD a3 (Int.toNat (r.length : Int)) []).length ∧ lf = nmV (Int.tmod (List.getD a2 (Int.toNat (r.length : Int)) (0 : Int)) (Int.tmod x1 4 + 1)) ∧ pc = [] ∧ ac = [] ∧ t' = t ∧ sk = [] ∧ γl = (Γ : Int) ∧ n = (N : Int) ∧ st = [83] ∧ r' = r ∧ γ = (Γ : Int) ∧ l' = l ∧
            ∀ s∈rt,(∃ a:Int,0≤a∧a<Int.tmod x0 5+1∧s=nmA a)∨∃ v:Int,0≤v∧v<Int.tmod x1 4+1∧s=nmV v,
          fun j _ _ _ _ _ _ _ _ _ _ _ _ _ _ _ _=>(((List.getD a3 (Int.toNat (r.length:Int)) []).length:Int)-j).toNat,⟨(by first | trivial | exact rfl | exact ⟨rfl,rfl⟩ | omega)⟩,⟨(by first | trivial | exact rfl | exact ⟨rfl,rfl⟩ | omega),by simp,(by first | trivial | exact rfl | exact ⟨rfl,rfl⟩ | omega),(by first | trivial | exact rfl | exact ⟨rfl,rfl⟩ | omega),(by first | trivial | exact rfl | exact ⟨rfl,rfl⟩ | omega),(by first | trivial | exact rfl | exact ⟨rfl,rfl⟩ | omega),(by first | trivial | exact rfl | exact ⟨rfl,rfl⟩ | omega),(by first | trivial | exact rfl | exact ⟨rfl,rfl⟩ | omega),(by first | trivial | exact rfl | exact ⟨rfl,rfl⟩ | omega),(by first | trivial | exact rfl | exact ⟨rfl,rfl⟩ | omega),(by first | trivial | exact rfl | exact ⟨rfl,rfl⟩ | omega),(by first | trivial | exact rfl | exact ⟨rfl,rfl⟩ | omega),(by first | trivial | exact rfl | exact ⟨rfl,rfl⟩ | omega),by simp⟩,?_⟩
        rintro _ _ rt _ _ t _ _ _ _ r w1 w2 _ l w3 w4 ⟨rfl,hj,rfl,rfl,rfl,rfl,rfl,rfl,rfl,rfl,rfl,rfl,rfl,hrt⟩
        (repeat (refine And.intro (Need.mk (by first | omega | (intro hh;exact hh.2 ⟨by omega,by omega,by omega⟩) | (intro hh;cases hh.1;done) | exact ⟨by omega,by omega,by omega⟩ | (simp only [List.length_append,List.length_cons,List.length_nil,bigN];omega) | trivial | exact rfl | exact ⟨rfl,rfl⟩ | exact ⟨rfl,rfl,rfl⟩ | exact ⟨rfl,rfl,rfl,rfl⟩ | ((repeat' apply And.intro) <;> first | rfl | omega | (simp only [List.length_append,List.length_cons,List.length_nil,bigN];omega) | (simp;done) | (simp;omega)))) ?_))
        refine ⟨fun h3=>?_,fun h3=>?_⟩
        · (simp only [decide_eq_true_eq,decide_eq_false_iff_not,Bool.not_eq_true',Bool.not_eq_false'] at h3)
          have hb3:isBy (List.getD (List.getD a3 (Int.toNat (r.length:Int)) []) (Int.toNat (rt.length:Int)) (0:Int)):=b3 _ (getD_mem' _ (by omega)) _ (getD_mem' _ (by omega))
          unfold isBy at hb3
          have mR:=tm (n:=Int.tmod x0 5+1+(Int.tmod x1 4+1)) hb3.1 (by omega)
          have mR5:=tm (n:=5) mR.1 (by omega)
          (repeat (refine And.intro (Need.mk (by first | omega | (intro hh;exact hh.2 ⟨by omega,by omega,by omega⟩) | (intro hh;cases hh.1;done) | exact ⟨by omega,by omega,by omega⟩ | (simp only [List.length_append,List.length_cons,List.length_nil,bigN];omega) | trivial | exact rfl | exact ⟨rfl,rfl⟩ | exact ⟨rfl,rfl,rfl⟩ | exact ⟨rfl,rfl,rfl,rfl⟩ | ((repeat' apply And.intro) <;> first | rfl | omega | (simp only [List.length_append,List.length_cons,List.length_nil,bigN];omega) | (simp;done) | (simp;omega)))) ?_))
          have ext:∀ s,((∃ a:Int,0≤a∧a<Int.tmod x0 5+1∧s=nmA a)∨∃ v:Int,0≤v∧v<Int.tmod x1 4+1∧s=nmV v)→∀ u∈rt++[s],((∃ a:Int,0≤a∧a<Int.tmod x0 5+1∧u=nmA a)∨∃ v:Int,0≤v∧v<Int.tmod x1 4+1∧u=nmV v):=fun s hs u hu=>by
            rcases List.mem_append.1 hu with hu | hu
            · exact hrt u hu
            · simp only [List.mem_singleton] at hu;rw [hu];exact hs
          refine ⟨fun h4=>?_,fun h4=>?_⟩
          · (simp only [decide_eq_true_eq,decide_eq_false_iff_not,Bool.not_eq_true',Bool.not_eq_false'] at h4)
            (repeat (refine And.intro (Need.mk (by first | omega | (intro hh;exact hh.2 ⟨by omega,by omega,by omega⟩) | (intro hh;cases hh.1;done) | exact ⟨by omega,by omega,by omega⟩ | (simp only [List.length_append,List.length_cons,List.length_nil,bigN];omega) | trivial | exact rfl | exact ⟨rfl,rfl⟩ | exact ⟨rfl,rfl,rfl⟩ | exact ⟨rfl,rfl,rfl,rfl⟩ | ((repeat' apply And.intro) <;> first | rfl | omega | (simp only [List.length_append,List.length_cons,List.length_nil,bigN];omega) | (simp;done) | (simp;omega)))) ?_))
            exact And.intro ⟨by simp,by simp only [List.length_append,List.length_cons,List.length_nil];omega,(by first | trivial | exact rfl | exact ⟨rfl,rfl⟩ | omega),(by first | trivial | exact rfl | exact ⟨rfl,rfl⟩ | omega),(by first | trivial | exact rfl | exact ⟨rfl,rfl⟩ | omega),(by first | trivial | exact rfl | exact ⟨rfl,rfl⟩ | omega),(by first | trivial | exact rfl | exact ⟨rfl,rfl⟩ | omega),(by first | trivial | exact rfl | exact ⟨rfl,rfl⟩ | omega),(by first | trivial | exact rfl | exact ⟨rfl,rfl⟩ | omega),(by first | trivial | exact rfl | exact ⟨rfl,rfl⟩ | omega),(by first | trivial | exact rfl | exact ⟨rfl,rfl⟩ | omega),(by first | trivial | exact rfl | exact ⟨rfl,rfl⟩ | omega),(by first | trivial | exact rfl | exact ⟨rfl,rfl⟩ | omega),ext _ (.inr ⟨_,by omega,by omega,rfl⟩)⟩ (Need.mk (by ((try dsimp only);omega)))
          · (simp only [decide_eq_true_eq,decide_eq_false_iff_not,Bool.not_eq_true',Bool.not_eq_false'] at h4)
            (repeat (refine And.intro (Need.mk (by first | omega | (intro hh;exact hh.2 ⟨by omega,by omega,by omega⟩) | (intro hh;cases hh.1;done) | exact ⟨by omega,by omega,by omega⟩ | (simp only [List.length_append,List.length_cons,List.length_nil,bigN];omega) | trivial | exact rfl | exact ⟨rfl,rfl⟩ | exact ⟨rfl,rfl,rfl⟩ | exact ⟨rfl,rfl,rfl,rfl⟩ | ((repeat' apply And.intro) <;> first | rfl | omega | (simp only [List.length_append,List.length_cons,List.length_nil,bigN];omega) | (simp;done) | (simp;omega)))) ?_))
            refine And.intro ⟨by simp,by simp only [List.length_append,List.length_cons,List.length_nil];omega,(by first | trivial | exact rfl | exact ⟨rfl,rfl⟩ | omega),(by first | trivial | exact rfl | exact ⟨rfl,rfl⟩ | omega),(by first | trivial | exact rfl | exact ⟨rfl,rfl⟩ | omega),(by first | trivial | exact rfl | exact ⟨rfl,rfl⟩ | omega),(by first | trivial | exact rfl | exact ⟨rfl,rfl⟩ | omega),(by first | trivial | exact rfl | exact ⟨rfl,rfl⟩ | omega),(by first | trivial | exact rfl | exact ⟨rfl,rfl⟩ | omega),(by first | trivial | exact rfl | exact ⟨rfl,rfl⟩ | omega),(by first | trivial | exact rfl | exact ⟨rfl,rfl⟩ | omega),(by first | trivial | exact rfl | exact ⟨rfl,rfl⟩ | omega),(by first | trivial | exact rfl | exact ⟨rfl,rfl⟩ | omega),ext _ (.inl ⟨_,mR5.1,?_,rfl⟩)⟩ (Need.mk (by ((try dsimp only);omega)))
            rw [Int.tmod_eq_of_lt (b:=5) mR.1 (by omega)];omega
        · (simp only [decide_eq_true_eq,decide_eq_false_iff_not,Bool.not_eq_true',Bool.not_eq_false'] at h3)
          refine ⟨fun h5=>?_,fun h5=>?_⟩
          · (simp only [decide_eq_true_eq,decide_eq_false_iff_not,Bool.not_eq_true',Bool.not_eq_false'] at h5)
            have hb4:isBy (List.getD a4 (Int.toNat (r.length:Int)) (0:Int)):=b4 _ (getD_mem' _ (by omega))
            unfold isBy at hb4
            have m4:=tm (n:=(((Int.toNat (N:Int)):Nat):Int)+1) hb4.1 (by omega)
            (repeat (refine And.intro (Need.mk (by first | omega | (intro hh;exact hh.2 ⟨by omega,by omega,by omega⟩) | (intro hh;cases hh.1;done) | exact ⟨by omega,by omega,by omega⟩ | (simp only [List.length_append,List.length_cons,List.length_nil,bigN];omega) | trivial | exact rfl | exact ⟨rfl,rfl⟩ | exact ⟨rfl,rfl,rfl⟩ | exact ⟨rfl,rfl,rfl,rfl⟩ | ((repeat' apply And.intro) <;> first | rfl | omega | (simp only [List.length_append,List.length_cons,List.length_nil,bigN];omega) | (simp;done) | (simp;omega)))) ?_))
            refine ⟨fun h6=>?_,fun h6=>?_⟩
            · (simp only [decide_eq_true_eq,decide_eq_false_iff_not,Bool.not_eq_true',Bool.not_eq_false'] at h6)
              (repeat (refine And.intro (Need.mk (by first | omega | (intro hh;exact hh.2 ⟨by omega,by omega,by omega⟩) | (intro hh;cases hh.1;done) | exact ⟨by omega,by omega,by omega⟩ | (simp only [List.length_append,List.length_cons,List.length_nil,bigN];omega) | trivial | exact rfl | exact ⟨rfl,rfl⟩ | exact ⟨rfl,rfl,rfl⟩ | exact ⟨rfl,rfl,rfl,rfl⟩ | ((repeat' apply And.intro) <;> first | rfl | omega | (simp only [List.length_append,List.length_cons,List.length_nil,bigN];omega) | (simp;done) | (simp;omega)))) ?_))
              exact And.intro ⟨Γ,by simp,by simp only [List.length_append,List.length_cons,List.length_nil];omega,(by first | trivial | exact rfl | exact ⟨rfl,rfl⟩ | omega),(by first | trivial | exact rfl | exact ⟨rfl,rfl⟩ | omega),(by first | trivial | exact rfl | exact ⟨rfl,rfl⟩ | omega),(by first | trivial | exact rfl | exact ⟨rfl,rfl⟩ | omega),(by first | trivial | exact rfl | exact ⟨rfl,rfl⟩ | omega),(by first | trivial | exact rfl | exact ⟨rfl,rfl⟩ | omega),(by first | trivial | exact rfl | exact ⟨rfl,rfl⟩ | omega),fin rt _ (by omega) hrt (.inr ⟨(Int.tmod (List.getD a4 (Int.toNat (r.length:Int)) (0:Int)) (((Int.toNat (N:Int)):Int)+(1:Int)))-1,by omega,by omega,by show cut _ _ _=cut _ _ _;rw [Int.sub_add_cancel]⟩)⟩ (Need.mk (by ((try dsimp only);omega)))
            · (repeat (refine And.intro (Need.mk (by first | omega | (intro hh;exact hh.2 ⟨by omega,by omega,by omega⟩) | (intro hh;cases hh.1;done) | exact ⟨by omega,by omega,by omega⟩ | (simp only [List.length_append,List.length_cons,List.length_nil,bigN];omega) | trivial | exact rfl | exact ⟨rfl,rfl⟩ | exact ⟨rfl,rfl,rfl⟩ | exact ⟨rfl,rfl,rfl,rfl⟩ | ((repeat' apply And.intro) <;> first | rfl | omega | (simp only [List.length_append,List.length_cons,List.length_nil,bigN];omega) | (simp;done) | (simp;omega)))) ?_))
              exact And.intro ⟨Γ,by simp,by simp only [List.length_append,List.length_cons,List.length_nil];omega,(by first | trivial | exact rfl | exact ⟨rfl,rfl⟩ | omega),(by first | trivial | exact rfl | exact ⟨rfl,rfl⟩ | omega),(by first | trivial | exact rfl | exact ⟨rfl,rfl⟩ | omega),(by first | trivial | exact rfl | exact ⟨rfl,rfl⟩ | omega),(by first | trivial | exact rfl | exact ⟨rfl,rfl⟩ | omega),(by first | trivial | exact rfl | exact ⟨rfl,rfl⟩ | omega),(by first | trivial | exact rfl | exact ⟨rfl,rfl⟩ | omega),fin rt _ (by omega) hrt (.inl rfl)⟩ (Need.mk (by ((try dsimp only);omega)))
          · (repeat (refine And.intro (Need.mk (by first | omega | (intro hh;exact hh.2 ⟨by omega,by omega,by omega⟩) | (intro hh;cases hh.1;done) | exact ⟨by omega,by omega,by omega⟩ | (simp only [List.length_append,List.length_cons,List.length_nil,bigN];omega) | trivial | exact rfl | exact ⟨rfl,rfl⟩ | exact ⟨rfl,rfl,rfl⟩ | exact ⟨rfl,rfl,rfl,rfl⟩ | ((repeat' apply And.intro) <;> first | rfl | omega | (simp only [List.length_append,List.length_cons,List.length_nil,bigN];omega) | (simp;done) | (simp;omega)))) ?_))
            exact And.intro ⟨Γ,by simp,by simp only [List.length_append,List.length_cons,List.length_nil];omega,(by first | trivial | exact rfl | exact ⟨rfl,rfl⟩ | omega),(by first | trivial | exact rfl | exact ⟨rfl,rfl⟩ | omega),(by first | trivial | exact rfl | exact ⟨rfl,rfl⟩ | omega),(by first | trivial | exact rfl | exact ⟨rfl,rfl⟩ | omega),(by first | trivial | exact rfl | exact ⟨rfl,rfl⟩ | omega),(by first | trivial | exact rfl | exact ⟨rfl,rfl⟩ | omega),(by first | trivial | exact rfl | exact ⟨rfl,rfl⟩ | omega),fin rt _ (by omega) hrt (.inl rfl)⟩ (Need.mk (by ((try dsimp only);omega)))
      · refine ⟨fun h5=>?_,fun h5=>?_⟩
        · (simp only [decide_eq_true_eq,decide_eq_false_iff_not,Bool.not_eq_true',Bool.not_eq_false'] at h5)
          have hb4:isBy (List.getD a4 (Int.toNat (r.length:Int)) (0:Int)):=b4 _ (getD_mem' _ (by omega))
          unfold isBy at hb4
          have m4:=tm (n:=(((Int.toNat (N:Int)):Nat):Int)+1) hb4.1 (by omega)
          (repeat (refine And.intro (Need.mk (by first | omega | (intro hh;exact hh.2 ⟨by omega,by omega,by omega⟩) | (intro hh;cases hh.1;done) | exact ⟨by omega,by omega,by omega⟩ | (simp only [List.length_append,List.length_cons,List.length_nil,bigN];omega) | trivial | exact rfl | exact ⟨rfl,rfl⟩ | exact ⟨rfl,rfl,rfl⟩ | exact ⟨rfl,rfl,rfl,rfl⟩ | ((repeat' apply And.intro) <;> first | rfl | omega | (simp only [List.length_append,List.length_cons,List.length_nil,bigN];omega) | (simp;done) | (simp;omega)))) ?_))
          refine ⟨fun h6=>?_,fun h6=>?_⟩
          · (simp only [decide_eq_true_eq,decide_eq_false_iff_not,Bool.not_eq_true',Bool.not_eq_false'] at h6)
            (repeat (refine And.intro (Need.mk (by first | omega | (intro hh;exact hh.2 ⟨by omega,by omega,by omega⟩) | (intro hh;cases hh.1;done) | exact ⟨by omega,by omega,by omega⟩ | (simp only [List.length_append,List.length_cons,List.length_nil,bigN];omega) | trivial | exact rfl | exact ⟨rfl,rfl⟩ | exact ⟨rfl,rfl,rfl⟩ | exact ⟨rfl,rfl,rfl,rfl⟩ | ((repeat' apply And.intro) <;> first | rfl | omega | (simp only [List.length_append,List.length_cons,List.length_nil,bigN];omega) | (simp;done) | (simp;omega)))) ?_))
            exact And.intro ⟨Γ,by simp,by simp only [List.length_append,List.length_cons,List.length_nil];omega,(by first | trivial | exact rfl | exact ⟨rfl,rfl⟩ | omega),(by first | trivial | exact rfl | exact ⟨rfl,rfl⟩ | omega),(by first | trivial | exact rfl | exact ⟨rfl,rfl⟩ | omega),(by first | trivial | exact rfl | exact ⟨rfl,rfl⟩ | omega),(by first | trivial | exact rfl | exact ⟨rfl,rfl⟩ | omega),(by first | trivial | exact rfl | exact ⟨rfl,rfl⟩ | omega),(by first | trivial | exact rfl | exact ⟨rfl,rfl⟩ | omega),fin [] _ (by simp) (by simp) (.inr ⟨(Int.tmod (List.getD a4 (Int.toNat (r.length:Int)) (0:Int)) (((Int.toNat (N:Int)):Int)+(1:Int)))-1,by omega,by omega,by show cut _ _ _=cut _ _ _;rw [Int.sub_add_cancel]⟩)⟩ (Need.mk (by ((try dsimp only);omega)))
          · (repeat (refine And.intro (Need.mk (by first | omega | (intro hh;exact hh.2 ⟨by omega,by omega,by omega⟩) | (intro hh;cases hh.1;done) | exact ⟨by omega,by omega,by omega⟩ | (simp only [List.length_append,List.length_cons,List.length_nil,bigN];omega) | trivial | exact rfl | exact ⟨rfl,rfl⟩ | exact ⟨rfl,rfl,rfl⟩ | exact ⟨rfl,rfl,rfl,rfl⟩ | ((repeat' apply And.intro) <;> first | rfl | omega | (simp only [List.length_append,List.length_cons,List.length_nil,bigN];omega) | (simp;done) | (simp;omega)))) ?_))
            exact And.intro ⟨Γ,by simp,by simp only [List.length_append,List.length_cons,List.length_nil];omega,(by first | trivial | exact rfl | exact ⟨rfl,rfl⟩ | omega),(by first | trivial | exact rfl | exact ⟨rfl,rfl⟩ | omega),(by first | trivial | exact rfl | exact ⟨rfl,rfl⟩ | omega),(by first | trivial | exact rfl | exact ⟨rfl,rfl⟩ | omega),(by first | trivial | exact rfl | exact ⟨rfl,rfl⟩ | omega),(by first | trivial | exact rfl | exact ⟨rfl,rfl⟩ | omega),(by first | trivial | exact rfl | exact ⟨rfl,rfl⟩ | omega),fin [] _ (by simp) (by simp) (.inl rfl)⟩ (Need.mk (by ((try dsimp only);omega)))
        · (repeat (refine And.intro (Need.mk (by first | omega | (intro hh;exact hh.2 ⟨by omega,by omega,by omega⟩) | (intro hh;cases hh.1;done) | exact ⟨by omega,by omega,by omega⟩ | (simp only [List.length_append,List.length_cons,List.length_nil,bigN];omega) | trivial | exact rfl | exact ⟨rfl,rfl⟩ | exact ⟨rfl,rfl,rfl⟩ | exact ⟨rfl,rfl,rfl,rfl⟩ | ((repeat' apply And.intro) <;> first | rfl | omega | (simp only [List.length_append,List.length_cons,List.length_nil,bigN];omega) | (simp;done) | (simp;omega)))) ?_))
          exact And.intro ⟨Γ,by simp,by simp only [List.length_append,List.length_cons,List.length_nil];omega,(by first | trivial | exact rfl | exact ⟨rfl,rfl⟩ | omega),(by first | trivial | exact rfl | exact ⟨rfl,rfl⟩ | omega),(by first | trivial | exact rfl | exact ⟨rfl,rfl⟩ | omega),(by first | trivial | exact rfl | exact ⟨rfl,rfl⟩ | omega),(by first | trivial | exact rfl | exact ⟨rfl,rfl⟩ | omega),(by first | trivial | exact rfl | exact ⟨rfl,rfl⟩ | omega),(by first | trivial | exact rfl | exact ⟨rfl,rfl⟩ | omega),fin [] _ (by simp) (by simp) (.inl rfl)⟩ (Need.mk (by ((try dsimp only);omega)))
    (simp only [decide_eq_true_eq,decide_eq_false_iff_not,Bool.not_eq_true',Bool.not_eq_false'] at h1)
    refine ⟨fun i t' sk γl n st r' _ _ γ l' _ _=>0≤i∧i≤Int.tmod x1 4+1∧(r'.length:Int)≤20+i∧t'=t∧sk=[]∧γl=(Γ:Int)∧n=(N:Int)∧st=[83]∧γ=(Γ:Int)∧l'=l∧RlOK B (Int.tmod x0 5+1) (Int.tmod x1 4+1) N r'∧∀ v:Int,0≤v→v<i→nmV v∈r'.map (·.1),
      fun i _ _ _ _ _ _ _ _ _ _ _ _=>(Int.tmod x1 4+1-i).toNat,⟨(by first | trivial | exact rfl | exact ⟨rfl,rfl⟩ | omega)⟩,⟨by omega,by omega,by omega,(by first | trivial | exact rfl | exact ⟨rfl,rfl⟩ | omega),(by first | trivial | exact rfl | exact ⟨rfl,rfl⟩ | omega),(by first | trivial | exact rfl | exact ⟨rfl,rfl⟩ | omega),(by first | trivial | exact rfl | exact ⟨rfl,rfl⟩ | omega),(by first | trivial | exact rfl | exact ⟨rfl,rfl⟩ | omega),(by first | trivial | exact rfl | exact ⟨rfl,rfl⟩ | omega),(by first | trivial | exact rfl | exact ⟨rfl,rfl⟩ | omega),R,fun v q1 q2=>by omega⟩,?_⟩
    clear R hk h1
    rintro i t _ _ _ _ r u1 u2 _ l u3 u4 ⟨hi0,hi1,hrl,rfl,rfl,rfl,rfl,rfl,rfl,rfl,R,hall⟩
    refine ⟨fun h1=>?_,fun h1=>?_⟩
    · (simp only [decide_eq_true_eq,decide_eq_false_iff_not,Bool.not_eq_true',Bool.not_eq_false'] at h1)
      (repeat (refine And.intro (Need.mk (by first | omega | (intro hh;exact hh.2 ⟨by omega,by omega,by omega⟩) | (intro hh;cases hh.1;done) | exact ⟨by omega,by omega,by omega⟩ | (simp only [List.length_append,List.length_cons,List.length_nil,bigN];omega) | trivial | exact rfl | exact ⟨rfl,rfl⟩ | exact ⟨rfl,rfl,rfl⟩ | exact ⟨rfl,rfl,rfl,rfl⟩ | ((repeat' apply And.intro) <;> first | rfl | omega | (simp only [List.length_append,List.length_cons,List.length_nil,bigN];omega) | (simp;done) | (simp;omega)))) ?_))
      refine ⟨fun fd j t' sk γl n st r' _ _ γ l' _ _=>0≤j∧j≤(r.length:Int)∧t'=t∧sk=[]∧γl=(Γ:Int)∧n=(N:Int)∧st=[83]∧r'=r∧γ=(Γ:Int)∧l'=l∧(fd=true→nmV i∈r.map (·.1)),
        fun _ j _ _ _ _ _ _ _ _ _ _ _ _=>((r.length:Int)-j).toNat,⟨(by first | trivial | exact rfl | exact ⟨rfl,rfl⟩ | omega)⟩,⟨by omega,by omega,(by first | trivial | exact rfl | exact ⟨rfl,rfl⟩ | omega),(by first | trivial | exact rfl | exact ⟨rfl,rfl⟩ | omega),(by first | trivial | exact rfl | exact ⟨rfl,rfl⟩ | omega),(by first | trivial | exact rfl | exact ⟨rfl,rfl⟩ | omega),(by first | trivial | exact rfl | exact ⟨rfl,rfl⟩ | omega),(by first | trivial | exact rfl | exact ⟨rfl,rfl⟩ | omega),(by first | trivial | exact rfl | exact ⟨rfl,rfl⟩ | omega),(by first | trivial | exact rfl | exact ⟨rfl,rfl⟩ | omega),nofun⟩,?_⟩
      rintro fd j t _ _ _ _ r w1 w2 _ l w3 w4 ⟨hj0,hj1,rfl,rfl,rfl,rfl,rfl,rfl,rfl,rfl,hfd⟩
      refine ⟨fun h2=>⟨fun h3=>?_,fun h3=>?_⟩,fun h2=>⟨fun h3=>?_,fun h3=>?_⟩⟩
      · (simp only [decide_eq_true_eq,decide_eq_false_iff_not,Bool.not_eq_true',Bool.not_eq_false'] at h2)
        (repeat (refine And.intro (Need.mk (by first | omega | (intro hh;exact hh.2 ⟨by omega,by omega,by omega⟩) | (intro hh;cases hh.1;done) | exact ⟨by omega,by omega,by omega⟩ | (simp only [List.length_append,List.length_cons,List.length_nil,bigN];omega) | trivial | exact rfl | exact ⟨rfl,rfl⟩ | exact ⟨rfl,rfl,rfl⟩ | exact ⟨rfl,rfl,rfl,rfl⟩ | ((repeat' apply And.intro) <;> first | rfl | omega | (simp only [List.length_append,List.length_cons,List.length_nil,bigN];omega) | (simp;done) | (simp;omega)))) ?_))
        exact And.intro ⟨by omega,by omega,(by first | trivial | exact rfl | exact ⟨rfl,rfl⟩ | omega),(by first | trivial | exact rfl | exact ⟨rfl,rfl⟩ | omega),(by first | trivial | exact rfl | exact ⟨rfl,rfl⟩ | omega),(by first | trivial | exact rfl | exact ⟨rfl,rfl⟩ | omega),(by first | trivial | exact rfl | exact ⟨rfl,rfl⟩ | omega),(by first | trivial | exact rfl | exact ⟨rfl,rfl⟩ | omega),(by first | trivial | exact rfl | exact ⟨rfl,rfl⟩ | omega),(by first | trivial | exact rfl | exact ⟨rfl,rfl⟩ | omega),fun _=>hfd h3⟩ (Need.mk (by ((try dsimp only);omega)))
      · (simp only [decide_eq_true_eq,decide_eq_false_iff_not,Bool.not_eq_true',Bool.not_eq_false'] at h2)
        (repeat (refine And.intro (Need.mk (by first | omega | (intro hh;exact hh.2 ⟨by omega,by omega,by omega⟩) | (intro hh;cases hh.1;done) | exact ⟨by omega,by omega,by omega⟩ | (simp only [List.length_append,List.length_cons,List.length_nil,bigN];omega) | trivial | exact rfl | exact ⟨rfl,rfl⟩ | exact ⟨rfl,rfl,rfl⟩ | exact ⟨rfl,rfl,rfl,rfl⟩ | ((repeat' apply And.intro) <;> first | rfl | omega | (simp only [List.length_append,List.length_cons,List.length_nil,bigN];omega) | (simp;done) | (simp;omega)))) ?_))
        refine And.intro ⟨by omega,by omega,(by first | trivial | exact rfl | exact ⟨rfl,rfl⟩ | omega),(by first | trivial | exact rfl | exact ⟨rfl,rfl⟩ | omega),(by first | trivial | exact rfl | exact ⟨rfl,rfl⟩ | omega),(by first | trivial | exact rfl | exact ⟨rfl,rfl⟩ | omega),(by first | trivial | exact rfl | exact ⟨rfl,rfl⟩ | omega),(by first | trivial | exact rfl | exact ⟨rfl,rfl⟩ | omega),(by first | trivial | exact rfl | exact ⟨rfl,rfl⟩ | omega),(by first | trivial | exact rfl | exact ⟨rfl,rfl⟩ | omega),fun h4=>?_⟩ (Need.mk (by ((try dsimp only);omega)))
        simp only [decide_eq_true_eq] at h4
        exact List.mem_map.2 ⟨_,getD_mem' _ (by omega),h4⟩
      · (repeat (refine And.intro (Need.mk (by first | omega | (intro hh;exact hh.2 ⟨by omega,by omega,by omega⟩) | (intro hh;cases hh.1;done) | exact ⟨by omega,by omega,by omega⟩ | (simp only [List.length_append,List.length_cons,List.length_nil,bigN];omega) | trivial | exact rfl | exact ⟨rfl,rfl⟩ | exact ⟨rfl,rfl,rfl⟩ | exact ⟨rfl,rfl,rfl,rfl⟩ | ((repeat' apply And.intro) <;> first | rfl | omega | (simp only [List.length_append,List.length_cons,List.length_nil,bigN];omega) | (simp;done) | (simp;omega)))) ?_))
        refine And.intro ⟨by omega,by omega,by simp only [List.length_append,List.length_cons,List.length_nil];omega,(by first | trivial | exact rfl | exact ⟨rfl,rfl⟩ | omega),(by first | trivial | exact rfl | exact ⟨rfl,rfl⟩ | omega),(by first | trivial | exact rfl | exact ⟨rfl,rfl⟩ | omega),(by first | trivial | exact rfl | exact ⟨rfl,rfl⟩ | omega),(by first | trivial | exact rfl | exact ⟨rfl,rfl⟩ | omega),(by first | trivial | exact rfl | exact ⟨rfl,rfl⟩ | omega),(by first | trivial | exact rfl | exact ⟨rfl,rfl⟩ | omega),R.push _ ⟨i,hi0,h1,rfl⟩ (by simp) (by simp) (.inl rfl) rfl,fun v q1 q2=>?_⟩ (Need.mk (by ((try dsimp only);omega)))
        rw [List.map_append]
        by_cases e:v=i
        · subst e;simp
        · exact List.mem_append_left _ (hall v q1 (by omega))
      · have hf:fd=true:=by simpa using h3
        (repeat (refine And.intro (Need.mk (by first | omega | (intro hh;exact hh.2 ⟨by omega,by omega,by omega⟩) | (intro hh;cases hh.1;done) | exact ⟨by omega,by omega,by omega⟩ | (simp only [List.length_append,List.length_cons,List.length_nil,bigN];omega) | trivial | exact rfl | exact ⟨rfl,rfl⟩ | exact ⟨rfl,rfl,rfl⟩ | exact ⟨rfl,rfl,rfl,rfl⟩ | ((repeat' apply And.intro) <;> first | rfl | omega | (simp only [List.length_append,List.length_cons,List.length_nil,bigN];omega) | (simp;done) | (simp;omega)))) ?_))
        refine And.intro ⟨by omega,by omega,by omega,(by first | trivial | exact rfl | exact ⟨rfl,rfl⟩ | omega),(by first | trivial | exact rfl | exact ⟨rfl,rfl⟩ | omega),(by first | trivial | exact rfl | exact ⟨rfl,rfl⟩ | omega),(by first | trivial | exact rfl | exact ⟨rfl,rfl⟩ | omega),(by first | trivial | exact rfl | exact ⟨rfl,rfl⟩ | omega),(by first | trivial | exact rfl | exact ⟨rfl,rfl⟩ | omega),(by first | trivial | exact rfl | exact ⟨rfl,rfl⟩ | omega),R,fun v q1 q2=>?_⟩ (Need.mk (by ((try dsimp only);omega)))
        by_cases e:v=i
        · subst e;exact hfd hf
        · exact hall v q1 (by omega)
    (simp only [decide_eq_true_eq,decide_eq_false_iff_not,Bool.not_eq_true',Bool.not_eq_false'] at h1)
    obtain rfl:i=Int.tmod x1 4+1:=by omega
    exact ⟨t,l,r,Γ,⟨good hB8 hT hV hV0 hN ht L R hall (by omega),R.rlen⟩,by rw [hlen];rfl,rfl⟩
  obtain ⟨a,h',e,t,l,r,g,hg,rfl,rfl⟩:=key
  exact ⟨t,l,r,g,hg,e⟩
end Go.Am.G
namespace Go.Am.G
open Go Go.Am.Pr
set_option maxRecDepth 100000
abbrev tGrP:Ty:=.pair (.slice tTk) (.pair (.slice tPat) (.pair (.slice tLv) (.pair .str (.pair (.slice tRl) .unit))))
abbrev GrP:=List Tk×List (List Int×List Int×Bool×Unit)×List Lv×List Int×List Rl×Unit
theorem gram_ex (s:Sml) (h:SmOK s):∃ x:GrP,(∃ k own y h2,callF PP orc k 16 [.tv [] tSm s] []=some (.tv own tGr y,h2)∧Thaw h2 tGr y tGrP x)∧∃ t l r,x=(t,([],(l,([83],(r,())))))∧GoodG t l [83] r∧((∀ l∈s.2.2.2.1,l.length≤7)→∀ x∈r,x.2.1.length≤7):=by
 obtain ⟨B,hB8,hB,hB7⟩:∃ B:Nat,B≤8∧(∀ l∈s.2.2.2.1,l.length≤B)∧((∀ l∈s.2.2.2.1,l.length≤7)→B≤7):=by
  by_cases q:∀ l∈s.2.2.2.1,l.length≤7
  ·exact ⟨7,by decide,q,fun _=>Nat.le_refl _⟩
  ·exact ⟨8,by decide,h.n3,fun e=>absurd e q⟩
 obtain ⟨t,l,r,g,⟨hg,hr⟩,K,e⟩:=gram_ev s h B hB8 hB
 refine ⟨(t,([],(l,([83],(r,()))))),⟨K,[],_,_,e K (Nat.le_refl _),?_⟩,t,l,r,rfl,hg,fun q x hx=>Nat.le_trans (hr x hx) (hB7 q)⟩
 exact .pair (.same _ _ rfl rfl) (.pair (.same _ _ rfl rfl) (.pair (.sref rfl rfl rfl) (.pair (.same _ _ rfl rfl) (.pair (.same _ _ rfl rfl) (.same _ _ rfl rfl)))))
noncomputable def gramOf (s:Sml) (h:SmOK s):GrP:=Classical.choose (gram_ex s h)
theorem gramOf_good7 (s:Sml) (h:SmOK s):∃ t l r,gramOf s h=(t,([],(l,([83],(r,())))))∧GoodG t l [83] r∧((∀ l∈s.2.2.2.1,l.length≤7)→∀ x∈r,x.2.1.length≤7):=(Classical.choose_spec (gram_ex s h)).2
theorem gramOf_good (s:Sml) (h:SmOK s):∃ t l r,gramOf s h=(t,([],(l,([83],(r,())))))∧GoodG t l [83] r:=by
 obtain ⟨t,l,r,e,hg,_⟩:=gramOf_good7 s h
 exact ⟨t,l,r,e,hg⟩
open Classical in
noncomputable def gramPrim:List AV→Option AV
 | [a]=>(asT tSm a).bind fun s=>if h:SmOK s then some (.tv [] tGrP (gramOf s h)) else none
 | _=>none
theorem gramPrim_ok {s:Sml} (h:SmOK s):gramPrim [.tv [] tSm s]=some (.tv [] tGrP (gramOf s h)):=by
 unfold gramPrim
 dsimp only
 rw [show asT tSm (.tv [] tSm s)=some s from rfl,Option.bind_some,dif_pos h]
theorem orc_types:orcB PP orc 169=true:=by decide +kernel
theorem orc_fns:fnsB PP orc 128=true:=by decide +kernel
theorem progOK:ProgOK PP orc where
 orc:=orcB_ok (fun T h=>by
  show tyTab.getD T none=none
  rw [List.getD_eq_getElem?_getD,List.getElem?_eq_none (by simpa [tyTab] using h)];rfl) orc_types
 mixed:=by kernel_rfl
 fns:=fnsB_ok (fun f h=>by
  show fnsTab.getD f false=false
  rw [List.getD_eq_getElem?_getD,List.getElem?_eq_none (by simpa [fnsTab] using h)];rfl) orc_fns
 prim:=fun f g h=>by cases h
 hprim:=fun f g h=>by cases h
theorem gram_prim {O:Orc} {hb:hasBody PP 16} (args:List AV) (r:AV) (hg:gramPrim args=some r):hasBody PP 16∧∀ (FB:Nat→Nat→Prop) (w:World) (h:Heap) (ι:Key→Nat) (vs:Array Value),args.length=vs.size→Rel O FB w ⟨args,h⟩ (tmArgs vs) ι →
  Calls PP 16 vs w fun e w'=>∃ v ι',e=.returned v∧Goes O FB w ⟨args,h⟩ (tmArgs vs) ι w' ⟨[r],h⟩ (fun _=>v) ι':=by
 refine ⟨hb,fun FB w h ι vs hl H=>?_⟩
 unfold gramPrim at hg
 split at hg
 ·rename_i a
  simp only [Option.bind_eq_some_iff] at hg
  obtain ⟨s,hs,hg⟩:=hg
  split at hg
  ·rename_i hok
   cases hg
   obtain ⟨own0,rfl⟩:=asT_tv hs
   obtain ⟨⟨k,own,y,h2,hc,d⟩,_⟩:=Classical.choose_spec (gram_ex s hok)
   refine prim_two (args:=[.tv [] tSm s]) progOK (fun g d e=>by cases e) hc d (by simpa using hl) H fun i=>?_
   cases i with
   | zero =>
    have h0:=H.vr 0
    have e0:(⟨[AV.tv own0 tSm s],h⟩:St).get 0=AV.tv own0 tSm s:=rfl
    rw [e0] at h0
    simp only [VR] at h0
    exact ⟨tSm,s,.inl ⟨rfl,rfl,h0⟩⟩
   | succ i=>exact ⟨tSm,s,.inr rfl⟩
  ·cases hg
 ·cases hg
end Go.Am.G
