/-
  A part of the proof of a law: see the text that states it.
-/
import Derived.Test.YtfnnapgpcndcjaaGreatDoorTN
set_option linter.all false
namespace Go.Am.Z.T
open Go
set_option maxRecDepth 100000
theorem flatMap_congr' {α β:Type} {f g:α→List β}:∀ {l:List α},(∀ x∈l,f x=g x)→l.flatMap f=l.flatMap g
 | [],_=>rfl
 | a::l,h=>by
  simp only [List.flatMap_cons,h a (List.mem_cons_self ..)]
  rw [flatMap_congr' fun x hx=>h x (List.mem_cons_of_mem _ hx)]
theorem getD_last {α:Type} (l:List α) (x d:α) {n:Nat} (h:n=l.length):(l++[x]).getD n d=x:=by
 subst h;simp [List.getD_eq_getElem?_getD]
abbrev kd (x:Th):List Int:=x.1.2.2.2.1
def bstep (acc:List qT3) (ks:List Int):List qT3:=acc++[(ks.flatMap fun k=>acc.getD k.toNat [])++[(acc.length:Int)]]
def belL (l:List Th):List qT3:=(l.map kd).foldl bstep []
def below (l:List Th) (i:Int):List Int:=if inR l i=true then (belL l).getD i.toNat [] else []
theorem bstep_len:∀ (K:List qT3) (acc:List qT3),(K.foldl bstep acc).length=acc.length+K.length
 | [],_=>rfl
 | k::K,acc=>by rw [List.foldl_cons,bstep_len K];simp [bstep];omega
theorem belL_len (l:List Th):(belL l).length=l.length:=by unfold belL;rw [bstep_len];simp
theorem inR_iff {l:List Th} {i:Int}:inR l i=true↔0≤i∧i<l.length:=by simp [inR]
theorem kidsN_map {l:List Th} {i:Int}:kidsN l i=if inR l i=true then (l.map kd).getD i.toNat [] else []:=by
 unfold kidsN atN
 split
 ·rename_i h
  rw [inR_iff] at h
  have hk:i.toNat<l.length:=by omega
  simp only [List.getD_eq_getElem?_getD,List.getElem?_map,List.getElem?_eq_getElem hk]
  rfl
 ·rfl
section
variable {l l':List Th} {ks:List Int}
theorem ext_len (h:l'.map kd=l.map kd++[ks]):l'.length=l.length+1:=by
 have:=congrArg List.length h
 simpa using this
theorem ext_inR (h:l'.map kd=l.map kd++[ks]) {i:Int} (hi:inR l i=true):inR l' i=true:=by
 have:=ext_len h
 rw [inR_iff] at *;omega
theorem ext_belL (h:l'.map kd=l.map kd++[ks]):belL l'=bstep (belL l) ks:=by
 unfold belL;rw [h,List.foldl_append];rfl
theorem ext_below (h:l'.map kd=l.map kd++[ks]) {i:Int} (hi:inR l i=true):below l' i=below l i:=by
 unfold below
 rw [if_pos (ext_inR h hi),if_pos hi,ext_belL h,bstep]
 rw [inR_iff] at hi
 have:i.toNat<(belL l).length:=by rw [belL_len];omega
 simp only [List.getD_eq_getElem?_getD,List.getElem?_append_left this]
theorem ext_new (h:l'.map kd=l.map kd++[ks]) (hk:inAll l ks=true):below l' l.length=ks.flatMap (below l)++[(l.length:Int)]:=by
 have hl:=ext_len h
 have hi:inR l' (l.length:Int)=true:=by rw [inR_iff];omega
 unfold below
 rw [if_pos hi,ext_belL h,bstep]
 rw [getD_last _ _ _ (by rw [belL_len];simp),belL_len]
 congr 1
 simp only [inAll,List.all_eq_true] at hk
 refine flatMap_congr' fun k hk'=>?_
 rw [if_pos (hk k hk')]
theorem ext_kids (h:l'.map kd=l.map kd++[ks]) {i:Int} (hi:inR l i=true):kidsN l' i=kidsN l i:=by
 rw [kidsN_map,kidsN_map,if_pos (ext_inR h hi),if_pos hi,h]
 rw [inR_iff] at hi
 have:i.toNat<(l.map kd).length:=by rw [List.length_map];omega
 simp only [List.getD_eq_getElem?_getD,List.getElem?_append_left this]
theorem ext_knew (h:l'.map kd=l.map kd++[ks]):kidsN l' l.length=ks:=by
 have hl:=ext_len h
 have hi:inR l' (l.length:Int)=true:=by rw [inR_iff];omega
 rw [kidsN_map,if_pos hi,h]
 exact getD_last _ _ _ (by simp)
end
theorem leaf_kd (l:List Th) (x:Tok):(l++[leafT x]).map kd=l.map kd++[[]]:=by simp [kd]
theorem node_kd {l:List Th} {ks:List Int} (rule sym:Int) (h:inAll l ks=true):(markN (l++[nodeT rule sym ks]) ks).map kd=l.map kd++[ks]:=by
 rw [map_markN (fun x=>rfl) (inAll_snoc h)];simp [kd]
theorem twF_spec {l:List Th} {ks:List Int}:∀ {n:Nat},twF l ks n=false→∀ i,i<n→belN l (ks.getD i 0)=false∧ks.getD i 0 ∉ ks.take i
 | 0,_,i,h=>by omega
 | n+1,h,i,hi=>by
  simp only [twF,Bool.or_eq_false_iff,decide_eq_false_iff_not] at h
  by_cases e:i=n
  ·subst e;exact ⟨h.1.2,h.2⟩
  ·exact twF_spec h.1.1 i (by omega)
theorem twF_ok {l:List Th} {ks:List Int} (h:twF l ks ks.length=false):(∀ k∈ks,belN l k=false)∧ks.Nodup:=by
 refine ⟨fun k hk=>?_,?_⟩
 ·obtain ⟨i,hi,rfl⟩:=List.mem_iff_getElem.1 hk
  have:=(twF_spec h i hi).1
  rwa [List.getD_eq_getElem?_getD,List.getElem?_eq_getElem hi] at this
 ·refine List.pairwise_iff_getElem.2 fun i j hi hj hij e=>?_
  have:=(twF_spec h j hj).2
  rw [List.getD_eq_getElem?_getD,List.getElem?_eq_getElem hj] at this
  refine this ?_
  show ks[j]∈_
  rw [← e]
  exact List.mem_take_iff_getElem.2 ⟨i,by omega,rfl⟩
theorem tr_below {l:List Th} (h:Tr l):∀ i,inR l i=true→below l i=(kidsN l i).flatMap (below l)++[i]∧∀ k∈kidsN l i,0≤k∧k<i:=by
 have ext:∀ {l l':List Th} {ks:List Int},l'.map kd=l.map kd++[ks]→inAll l ks=true→(∀ i,inR l i=true→below l i=(kidsN l i).flatMap (below l)++[i]∧∀ k∈kidsN l i,0≤k∧k<i) →
   ∀ i,inR l' i=true→below l' i=(kidsN l' i).flatMap (below l')++[i]∧∀ k∈kidsN l' i,0≤k∧k<i:=fun {l l' ks} he hk ih i hi=>by
  have hall:=List.all_eq_true.1 hk
  by_cases hi2:inR l i=true
  ·obtain ⟨h1,h2⟩:=ih i hi2
   rw [ext_below he hi2,ext_kids he hi2]
   refine ⟨?_,h2⟩
   rw [h1]
   congr 1
   refine flatMap_congr' fun k hk=>?_
   have:=h2 k hk
   rw [inR_iff] at hi2
   exact (ext_below he (by rw [inR_iff];omega)).symm
  ·have e:i=(l.length:Int):=by
    have:=ext_len he
    rw [inR_iff] at hi
    have:¬ (0≤i∧i<l.length):=fun h=>hi2 (inR_iff.2 h)
    omega
   subst e
   rw [ext_new he hk,ext_knew he]
   refine ⟨?_,fun k hk=>inR_iff.1 (hall k hk)⟩
   congr 1
   exact flatMap_congr' fun k hk=>(ext_below he (hall k hk)).symm
 induction h with
 | nil=>intro i hi;rw [inR_iff] at hi;simp at hi;omega
 | leaf l x _ ih=>exact ext (leaf_kd l x) rfl ih
 | node l rule sym ks _ hi _ _ ih=>exact ext (node_kd rule sym hi) hi ih
theorem below_out {l:List Th} {i:Int} (h:inR l i=false):below l i=[]:=by unfold below;rw [if_neg (by simp [h])]
theorem tr_lt {l:List Th} (h:Tr l):∀ n:Nat,∀ i:Int,i.toNat≤n→∀ j∈below l i,0≤j∧j≤i∧i<l.length:=by
 intro n
 induction n with
 | zero =>
  intro i hn j hj
  cases hi:inR l i with
  | false=>rw [below_out hi] at hj;cases hj
  | true =>
   obtain ⟨h1,h2⟩:=tr_below h i hi
   rw [inR_iff] at hi
   rw [h1] at hj
   rcases List.mem_append.1 hj with hj | hj
   ·obtain ⟨k,hk,_⟩:=List.mem_flatMap.1 hj
    have:=h2 k hk
    omega
   ·simp only [List.mem_singleton] at hj;omega
 | succ n ih =>
  intro i hn j hj
  cases hi:inR l i with
  | false=>rw [below_out hi] at hj;cases hj
  | true =>
   obtain ⟨h1,h2⟩:=tr_below h i hi
   rw [inR_iff] at hi
   rw [h1] at hj
   rcases List.mem_append.1 hj with hj | hj
   ·obtain ⟨k,hk,hj⟩:=List.mem_flatMap.1 hj
    have:=h2 k hk
    have:=ih k (by omega) j hj
    omega
   ·simp only [List.mem_singleton] at hj;omega
def rootS (f:Nat→Nat) (b:Nat→Bool) (n:Nat):Nat:=((List.range n).map fun i=>if b i=true then 0 else f i).sum
theorem rootS_succ (f b n):rootS f b (n+1)=rootS f b n+if b n=true then 0 else f n:=by
 simp [rootS,List.range_succ]
theorem rootS_congr {f f':Nat→Nat} {b b':Nat→Bool}:∀ {n:Nat},(∀ i,i<n→f i=f' i∧b i=b' i)→rootS f b n=rootS f' b' n
 | 0,_=>rfl
 | n+1,h=>by
  rw [rootS_succ,rootS_succ,rootS_congr fun i hi=>h i (by omega),(h n (by omega)).1,(h n (by omega)).2]
theorem rootS_one {f:Nat→Nat} {b:Nat→Bool} {k:Nat} (hk:b k=false):∀ {n:Nat},k<n→rootS f (fun i=>b i||decide (i=k)) n+f k=rootS f b n
 | 0,h=>by omega
 | n+1,h=>by
  rw [rootS_succ,rootS_succ]
  by_cases e:k=n
  ·subst e
   have:rootS f (fun i=>b i||decide (i=k)) k=rootS f b k:=rootS_congr fun i hi=>⟨rfl,by
    have:i≠k:=by omega
    simp [this]⟩
   rw [this]
   simp [hk]
  ·have ih:=rootS_one (f:=f) hk (n:=n) (by omega)
   have:n≠k:=fun h=>e h.symm
   have e3:(b n||decide (n=k))=b n:=by simp [this]
   rw [e3]
   omega
theorem rootS_rm {f:Nat→Nat} {n:Nat}:∀ {ks:List Int} {b:Nat→Bool},(∀ k∈ks,0≤k∧k<n∧b k.toNat=false)→ks.Nodup→rootS f (fun i=>b i||decide ((i:Int)∈ks)) n+(ks.map fun k=>f k.toNat).sum=rootS f b n
 | [],b,_,_=>by
  simp only [List.not_mem_nil,decide_false,Bool.or_false,List.map_nil,List.sum_nil,Nat.add_zero]
 | k::ks,b,h,hd=>by
  obtain ⟨hd1,hd2⟩:=List.nodup_cons.1 hd
  obtain ⟨h1,h2,h3⟩:=h k (List.mem_cons_self ..)
  have ih:=rootS_rm (f:=f) (n:=n) (ks:=ks) (b:=fun i=>b i||decide (i=k.toNat)) (fun q hq=>by
   obtain ⟨q1,q2,q3⟩:=h q (List.mem_cons_of_mem _ hq)
   refine ⟨q1,q2,?_⟩
   have:q.toNat≠k.toNat:=fun e=>hd1 (by
    have:q=k:=by omega
    rw [← this];exact hq)
   simp [q3,this]) hd2
  have one:=rootS_one (f:=f) h3 (n:=n) (by omega)
  have e:rootS f (fun i=>b i||decide ((i:Int)∈k::ks)) n=rootS f (fun i=>(b i||decide (i=k.toNat))||decide ((i:Int)∈ks)) n:=rootS_congr fun i hi=>⟨rfl,by
   have e1:decide ((i:Int)∈k::ks)=(decide (i=k.toNat)||decide ((i:Int)∈ks)):=by
    rw [Bool.eq_iff_iff]
    simp only [List.mem_cons,Bool.or_eq_true,decide_eq_true_eq]
    constructor
    ·rintro (h | h)
     ·left;omega
     ·right;exact h
    ·rintro (h | h)
     ·left;omega
     ·right;exact h
   rw [e1,Bool.or_assoc]⟩
  simp only [List.map_cons,List.sum_cons]
  omega
theorem belN_markN:∀ {ks:List Int} {l:List Th},inAll l ks=true→∀ i,inR l i=true→belN (markN l ks) i=(belN l i||decide (i∈ks))
 | [],l,_,i,hi=>by simp [markN]
 | k::ks,l,h,i,hi=>by
  have h':=h
  simp only [inAll,List.all_cons,Bool.and_eq_true] at h'
  have hl:=setN_len l k (setBel (atN l k))
  have ih:=belN_markN (ks:=ks) (l:=setN l k (setBel (atN l k))) (inAll_len hl (by simpa [inAll] using h'.2)) i (by rw [inR_congr hl];exact hi)
  rw [markN,ih]
  have hi':=inR_iff.1 hi
  have hk':=inR_iff.1 h'.1
  have e:belN (setN l k (setBel (atN l k))) i=(belN l i||decide (i=k)):=by
   unfold belN
   rw [atN_in (by rw [inR_congr hl];exact hi),atN_in hi]
   unfold setN
   simp only [List.getD_eq_getElem?_getD,List.getElem?_set]
   by_cases e:k.toNat=i.toNat
   ·have e2:i=k:=by omega
    have e3:k.toNat<l.length:=by omega
    simp [e2,e3]
   ·have e2:i≠k:=fun h=>e (by rw [h])
    simp [e,e2]
  rw [e,Bool.or_assoc]
  congr 1
  rw [Bool.eq_iff_iff]
  simp only [List.mem_cons,Bool.or_eq_true,decide_eq_true_eq]
theorem belN_snoc {l:List Th} {x:Th} {i:Int} (h:inR l i=true):belN (l++[x]) i=belN l i:=by unfold belN;rw [atN_snoc h]
theorem belN_last {l:List Th} {x:Th}:belN (l++[x]) l.length=x.1.2.2.2.2.2.1:=by
 unfold belN
 rw [atN_in (by rw [inR_iff];simp;omega)]
 rw [getD_last _ _ _ (by simp)]
theorem tr_roots {l:List Th} (h:Tr l) (μ:List Int→Nat) (h0:μ []=0) (hadd:∀ a b,μ (a++b)=μ a+μ b) :
  rootS (fun i=>μ (below l i)) (fun i=>belN l i) l.length=((List.range l.length).map fun i:Nat=>μ [(i:Int)]).sum:=by
 have hfl:∀ (ks:List Int) (f:Int→List Int),μ (ks.flatMap f)=(ks.map fun k=>μ (f k)).sum:=fun ks f=>by
  induction ks with
  | nil=>simpa using h0
  | cons k ks ih=>simp [hadd,ih]
 induction h with
 | nil=>rfl
 | leaf l x _ ih =>
  have he:=leaf_kd l x
  have hl:(l++[leafT x]).length=l.length+1:=by simp
  rw [hl,rootS_succ,List.range_succ,List.map_append,List.sum_append,← ih,belN_last,ext_new he rfl]
  congr 1
  ·exact rootS_congr fun i hi=>by
    have hi':inR l (i:Int)=true:=by rw [inR_iff];omega
    rw [ext_below he hi',belN_snoc hi'];exact ⟨rfl,rfl⟩
 | node l rule sym ks _ hi ht _ ih =>
  obtain ⟨t1,t2⟩:=twF_ok ht
  have he:=node_kd rule sym hi
  have hin:=List.all_eq_true.1 hi
  have hl:(markN (l++[nodeT rule sym ks]) ks).length=l.length+1:=by rw [markN_len];simp
  rw [hl,rootS_succ,List.range_succ,List.map_append,List.sum_append,← ih,ext_new he hi]
  have hlast:belN (markN (l++[nodeT rule sym ks]) ks) (l.length:Int)=false:=by
   rw [belN_markN (inAll_snoc hi) _ (by rw [inR_iff];simp;omega),belN_last]
   simp only [Bool.false_or,decide_eq_false_iff_not]
   intro hm
   have:=inR_iff.1 (hin _ hm)
   omega
  rw [hlast]
  simp only [Bool.false_eq_true,if_false,hadd,hfl,List.map_cons,List.map_nil,List.sum_cons,List.sum_nil,Nat.add_zero]
  have rm:=rootS_rm (f:=fun i=>μ (below l i)) (n:=l.length) (ks:=ks) (b:=fun i=>belN l i) (fun k hk=>by
   have h1:=inR_iff.1 (hin k hk)
   refine ⟨h1.1,h1.2,?_⟩
   rw [Int.toNat_of_nonneg h1.1];exact t1 k hk) t2
  have e1:rootS (fun i=>μ (below (markN (l++[nodeT rule sym ks]) ks) i)) (fun i=>belN (markN (l++[nodeT rule sym ks]) ks) i) l.length=rootS (fun i=>μ (below l i)) (fun i=>belN l i||decide ((i:Int)∈ks)) l.length:=rootS_congr fun i hi2=>by
   have hi':inR l (i:Int)=true:=by rw [inR_iff];omega
   rw [ext_below he hi',belN_markN (inAll_snoc hi) _ (by rw [inR_iff] at *;simp;omega),belN_snoc hi']
   exact ⟨rfl,rfl⟩
  have e2:(ks.map fun k=>μ (below l ((k.toNat:Nat):Int))).sum=(ks.map fun k=>μ (below l k)).sum:=by
   congr 1
   refine List.map_congr_left fun k hk=>?_
   rw [Int.toNat_of_nonneg (inR_iff.1 (hin k hk)).1]
  rw [e1]
  simp only [e2] at rm
  omega
theorem sum_ones (n:Nat):((List.range n).map fun i:Nat=>([(i:Int)]:List Int).length).sum=n:=by
 induction n with
 | zero=>rfl
 | succ n ih=>rw [List.range_succ,List.map_append,List.sum_append,ih];rfl
theorem tr_size {l:List Th} (h:Tr l):∀ i,(below l i).length≤l.length:=by
 induction h with
 | nil=>intro i;rw [below_out (by simp [inR])];simp
 | leaf l x _ ih =>
  intro i
  have he:=leaf_kd l x
  rw [ext_len he]
  by_cases hi:inR l i=true
  ·rw [ext_below he hi];have:=ih i;omega
  ·by_cases hi2:inR (l++[leafT x]) i=true
   ·have:i=l.length:=by rw [inR_iff] at *;simp at hi2;omega
    subst this
    rw [ext_new he rfl];simp
   ·rw [below_out (by simpa using hi2)];simp
 | node l rule sym ks ht0 hi0 ht hk ih =>
  intro i
  have he:=node_kd rule sym hi0
  rw [ext_len he]
  by_cases hi:inR l i=true
  ·rw [ext_below he hi];have:=ih i;omega
  ·by_cases hi2:inR (markN (l++[nodeT rule sym ks]) ks) i=true
   ·have:i=l.length:=by rw [inR_iff] at *;rw [ext_len he] at hi2;omega
    subst this
    obtain ⟨t1,t2⟩:=twF_ok ht
    have hin:=List.all_eq_true.1 hi0
    have rt:=tr_roots ht0 List.length rfl (fun a b=>List.length_append)
    rw [sum_ones] at rt
    have rm:=rootS_rm (f:=fun i=>(below l i).length) (n:=l.length) (ks:=ks) (b:=fun i=>belN l i) (fun k hk=>by
     have h1:=inR_iff.1 (hin k hk)
     refine ⟨h1.1,h1.2,?_⟩
     rw [Int.toNat_of_nonneg h1.1];exact t1 k hk) t2
    have e2:(ks.map fun k=>(below l ((k.toNat:Nat):Int)).length).sum=(ks.map fun k=>(below l k).length).sum:=by
     congr 1
     refine List.map_congr_left fun k hk=>?_
     rw [Int.toNat_of_nonneg (inR_iff.1 (hin k hk)).1]
    simp only [e2] at rm
    rw [ext_new he hi0,List.length_append,List.length_flatMap]
    simp only [List.length_cons,List.length_nil]
    omega
   ·rw [below_out (by simpa using hi2)];simp
end Go.Am.Z.T
