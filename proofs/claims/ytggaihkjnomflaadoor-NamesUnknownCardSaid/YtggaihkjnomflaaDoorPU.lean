/-
  A part of the proof of a law: see the text that states it.
-/
import Derived.Test.YtggaihkjnomflaaDoorPJ
import Derived.Test.YtggaihkjnomflaaDoorPG
import Derived.Test.YtggaihkjnomflaaDoorAm4
import Derived.Test.YtggaihkjnomflaaDoorVe1
set_option linter.all false
namespace Go.Am.D
open Go Go.Am.Pr Go.Am.D.L
open Go.Am.G (GoodG toks vrs lvs tSm Sml SmOK gramOf gramOf_good gramOf_good7 isBy)
set_option maxRecDepth 100000
theorem smOKu {s:Sml} (hi:InR tSm s) (h:s.2.2.1.length≤20∧s.2.2.2.2.2.1.length≤5∧∀ x∈s.2.2.2.1,x.length≤8):SmOK s:=by
 obtain ⟨x0,x1,a2,a3,a4,a5,a6,_⟩:=s
 simp only [InR] at hi
 obtain ⟨i0,i1,⟨_,i2⟩,⟨_,i3⟩,⟨_,i4⟩,⟨_,i5⟩,⟨_,i6⟩,_⟩:=hi
 have mem:∀ l:List Int,(∀ i,i<l.length→(Lit.int .u8 (l.getD i 0)).wf=true)→∀ x∈l,isBy x:=fun l h x hx=>by
  obtain ⟨i,hi,rfl⟩:=List.mem_iff_getElem.1 hx
  have:=h i hi
  rw [List.getD_eq_getElem?_getD,List.getElem?_eq_getElem hi] at this
  exact u8_wf this
 refine ⟨u8_wf i0,u8_wf i1,mem _ i2,fun l hl=>?_,mem _ i4,mem _ i5,mem _ i6,h.1,h.2.1,h.2.2⟩
 obtain ⟨i,hi,rfl⟩:=List.mem_iff_getElem.1 hl
 have:=(i3 i hi).2
 rw [List.getD_eq_getElem?_getD,List.getElem?_eq_getElem hi] at this
 exact mem _ this
theorem sm_lenu {s:Sml} (hi:InR tSm s):s.2.2.2.1.length≤9223372036854775807:=by
 obtain ⟨x0,x1,a2,a3,a4,a5,a6,_⟩:=s
 simp only [InR] at hi
 have:=hi.2.2.2.1.1
 unfold maxLen at this
 exact this
theorem fewS_u {s:Sml} (h:fewS s 20 7=true):s.2.2.1.length≤20∧s.2.2.2.2.2.1.length≤5∧∀ x∈s.2.2.2.1,x.length≤7:=by
 unfold fewS at h
 simp only [Bool.and_eq_true,decide_eq_true_eq,List.all_eq_true] at h
 exact ⟨by omega,h.2.1,fun x hx=>by have:=h.2.2 x hx;omega⟩
theorem getD_last {α:Type} (l:List α) (x d:α):(l++[x]).getD l.length d=x:=by
 rw [List.getD_eq_getElem?_getD,List.getElem?_append_right (Nat.le_refl _),Nat.sub_self];rfl
abbrev zzN:List Int:=[122,122]
theorem rul_small {t:List Tk} {l:List Lv} {r:List Rl} (h:GoodG t l [83] r) {x:Rl} (hx:x∈r) (q:List qT0) (hq:q.length≤8) (hn:∀ n∈q,nameO n=true):rulO (x.1,(q,(x.2.2.1,(x.2.2.2.1,()))))=true:=by
 unfold rulO
 dsimp only
 rw [tok_nm.2.1 _ (h.left x hx),decide_eq_true hq,List.all_eq_true.2 hn,h.act x hx]
 rcases h.prec x hx with q | q
 ·rw [q];rfl
 ·rw [tok_nm.2.2.1 _ q.1,Bool.or_true];rfl
theorem nm_small {t:List Tk} {l:List Lv} {r:List Rl} (h:GoodG t l [83] r) {x:Rl} (hx:x∈r):∀ n∈x.2.1,nameO n=true:=fun n hn=>(h.rnm x hx n hn).elim (fun q=>tok_nm.1 n (h.tname q)) fun q=>tok_nm.2.1 n (h.rname q)
theorem right_mix {t:List Tk} {l:List Lv} {r:List Rl} (h:GoodG t l [83] r) (t':List Tk) (r':List Rl) (p1:∀ x∈t',patO x.2.1=true) (p2:t'.length≤20) (p3:onceO (t'.map (·.1))=true) (p4:r'.length=r.length) (p5:∀ x∈r',rulO x=true):rightO (smG t' l r')=true:=by
 refine (rightO_iff _).2 ⟨⟨p1,p2,p3⟩,⟨fun x hx=>?_,by have:=h.ln;dsimp only;omega,?_⟩,Nat.zero_le _,nofun,(by decide:nameO [83]=true),by have:=h.rn.1;dsimp only;omega,by have:=h.rn.2;dsimp only;omega,p5⟩
 ·obtain ⟨q1,q2,q3⟩:=h.lev x hx
  unfold lvO1
  rw [decide_eq_true q1,decide_eq_true q2,decide_eq_false q3];rfl
 ·unfold onceO
  rw [decide_eq_true h.lnd,List.all_eq_true.2 fun n hn=>(h.lnm n hn).elim (tok_nm.1 n) (tok_nm.2.2.1 n)];rfl
theorem pat_small {t:List Tk} {l:List Lv} {r:List Rl} (h:GoodG t l [83] r):∀ x∈t,patO x.2.1=true:=fun x hx=>by
 obtain ⟨q1,q2⟩:=h.tok x hx
 have:=tok_nm.2.2.2.2.2.1 _ q1
 rw [q2]
 unfold patO
 rw [if_pos this.1,decide_eq_true this.2];rfl
abbrev dupT (n:List Int):Tk:=(n,(([120],([],(false,()))),()))
theorem few_dup {t:List Tk} {l:List Lv} {r:List Rl} (h:GoodG t l [83] r) {n:List Int} (hn:n∈r.map (·.1)):Few (smG (t++[dupT n]) l r):=by
 have f:=few_small h
 have h1:=h.tn
 have hl:=nameO_len (tok_nm.2.1 _ (h.rname hn))
 refine ⟨by dsimp only;rw [List.length_append,List.length_singleton];omega,fun x hx=>?_,f.sk,f.sks,f.lv,f.lvn,f.rl,f.rls,f.act⟩
 rcases List.mem_append.1 hx with hx | hx
 ·exact f.tks x hx
 ·rw [List.mem_singleton] at hx
  subst hx
  exact ⟨by dsimp only;omega,by show ([120]:List Int).length≤_;decide,Nat.zero_le _⟩
theorem of_dup {t:List Tk} {l:List Lv} {r:List Rl} (h:GoodG t l [83] r) {n:List Int} (hn:n∈r.map (·.1)):ofO (smG (t++[dupT n]) l r)=(pl0,(15,n)):=by
  have hnv:=h.rname hn
  have hR:rightO (smG (t++[dupT n]) l r)=true:=by
    refine right_mix h _ _ (fun x hx=>?_) (by rw [List.length_append,List.length_singleton];have:=h.tn;omega) ?_ rfl fun x hx=>rul_small h hx x.2.1 (h.rlen x hx) (nm_small h hx)
    · rcases List.mem_append.1 hx with hx | hx
      · exact pat_small h x hx
      · rw [List.mem_singleton] at hx
        subst hx
        exact (by decide:patO ([120],([],(false,())))=true)
    · unfold onceO
      rw [List.map_append,List.all_append,List.all_eq_true.2 fun n hn=>tok_nm.1 n (h.tname hn)]
      have e1:[dupT n].map (·.1)=[n]:=rfl
      rw [e1,List.all_cons,tok_nm.2.1 n hnv,decide_eq_true (nodup_snoc.2 ⟨h.tnd,fun q=>tok_nm.2.2.2.1 _ (h.tname q) hnv⟩)];rfl
  have hv:∀ m,m∈(declO (smG (t++[dupT n]) l r)).2.1↔m∈r.map (·.1):=fun m=>by
    refine ((varsO_spec r).2 m).trans ?_
    rw [List.mem_map]
  have e1:findI (fun x:Tk=>decide (x.1∈(declO (smG (t++[dupT n]) l r)).2.1)) (t++[dupT n])=t.length:=by
    refine findI_hit (d:=tk0) (by rw [List.length_append,List.length_singleton];omega) ?_ ?_
    · rw [List.take_append_of_le_length (Nat.le_refl _),List.take_of_length_le (Nat.le_refl _)]
      refine List.any_eq_false.2 fun x hx q=>?_
      have q:=(hv _).1 (of_decide_eq_true q)
      exact tok_nm.2.2.2.1 _ (h.tok x hx).1 (h.rname q)
    · rw [getD_last]
      exact decide_eq_true ((hv n).2 hn)
  unfold ofO
  rw [if_neg (by rw [hR];decide)]
  show (if 0≤findI (fun x:Tk=>decide (x.1∈(declO (smG (t++[dupT n]) l r)).2.1)) (t++[dupT n]) then _ else _)=_
  rw [if_pos (by rw [e1];omega)]
  show (pl0,((15:Int),((t++[dupT n]).getD (findI (fun x:Tk=>decide (x.1∈(declO (smG (t++[dupT n]) l r)).2.1)) (t++[dupT n])).toNat tk0).1))=_
  rw [e1,Int.toNat_natCast,getD_last]
abbrev zzR (x:Rl):Rl:=(x.1,(x.2.1++[zzN],(x.2.2.1,(x.2.2.2.1,()))))
theorem zz_mem {r:List Rl} {i:Nat} {x:Rl} (hx:x∈r.set i (zzR (r.getD i rl0))) (hi:i<r.length):x∈r∨x=zzR (r.getD i rl0):=List.mem_or_eq_of_mem_set hx
theorem few_zz {t:List Tk} {l:List Lv} {r:List Rl} (h:GoodG t l [83] r) {i:Nat} (hi:i<r.length):Few (smG t l (r.set i (zzR (r.getD i rl0)))):=by
 have f:=few_small h
 have hm:=getD_mem' rl0 r i hi
 refine ⟨f.tk,f.tks,f.sk,f.sks,f.lv,f.lvn,by have:=f.rl;dsimp only at this ⊢;rw [List.length_set];exact this,fun x hx=>?_,fun x hx=>?_⟩
 ·rcases zz_mem hx hi with q | rfl
  ·exact f.rls x q
  ·obtain ⟨q1,q2,q3,q4,q5⟩:=f.rls _ hm
   refine ⟨q1,?_,fun n hn=>?_,q4,q5⟩
   ·have:=h.rlen _ hm
    dsimp only;rw [List.length_append,List.length_singleton];omega
   ·rcases List.mem_append.1 hn with hn | hn
    ·exact q3 n hn
    ·rw [List.mem_singleton] at hn
     subst hn;decide
 ·rcases zz_mem hx hi with q | rfl
  ·exact f.act x q
  ·exact (f.act (r.getD i rl0) hm:ActB (r.getD i rl0))
theorem of_zz {t:List Tk} {l:List Lv} {r:List Rl} (h:GoodG t l [83] r) {i:Nat} (hi:i<r.length) (h7:(r.getD i rl0).2.1.length≤7):ofO (smG t l (r.set i (zzR (r.getD i rl0))))=(pl0,(16,zzN)):=by
  have hm:=getD_mem' rl0 r i hi
  have hR:rightO (smG t l (r.set i (zzR (r.getD i rl0))))=true:=by
    refine right_mix h _ _ (pat_small h) (by have:=h.tn;omega) ?_ List.length_set fun x hx=>?_
    · unfold onceO
      rw [decide_eq_true h.tnd,List.all_eq_true.2 fun n hn=>tok_nm.1 n (h.tname hn)];rfl
    · rcases zz_mem hx hi with q | rfl
      · exact rul_small h q x.2.1 (h.rlen x q) (nm_small h q)
      · refine rul_small h hm _ (by rw [List.length_append,List.length_singleton];omega) fun n hn=>?_
        rcases List.mem_append.1 hn with hn | hn
        · exact nm_small h hm n hn
        · rw [List.mem_singleton] at hn
          subst hn;decide
  have hmap:(r.set i (zzR (r.getD i rl0))).map (·.1)=r.map (·.1):=by
    rw [List.map_set]
    have:(zzR (r.getD i rl0)).1=(r.map (·.1))[i]'(by rw [List.length_map];exact hi):=by
      rw [List.getElem_map,List.getD_eq_getElem?_getD,List.getElem?_eq_getElem hi];rfl
    rw [this,List.set_getElem_self]
  have hv:∀ m,m∈(declO (smG t l (r.set i (zzR (r.getD i rl0))))).2.1↔m∈r.map (·.1):=fun m=>by
    refine ((varsO_spec _).2 m).trans ?_
    rw [← hmap,List.mem_map]
  have ht:(declO (smG t l (r.set i (zzR (r.getD i rl0))))).1=endT::t.map (·.1):=rfl
  generalize hp:declO (smG t l (r.set i (zzR (r.getD i rl0))))=p at hv ht
  have hs:∀ n,(n∈t.map (·.1)∨n∈r.map (·.1))→0≤symO p n:=fun n hn=>by
    unfold symO
    split
    · assumption
    · rename_i q1
      rcases hn with hn | hn
      · exact absurd (place_in (by rw [ht];exact List.mem_cons_of_mem _ hn)) q1
      · have:=place_in ((hv n).2 hn)
        rw [if_pos this];omega
  have hz:symO p zzN=-1:=by
    unfold symO
    rw [place_out (l:=p.1),place_out (l:=p.2.1)]
    · rfl
    · intro q
      exact absurd (h.rname ((hv _).1 q)) (by decide)
    · rw [ht]
      intro q
      rcases List.mem_cons.1 q with q | q
      · exact absurd q (by decide)
      · exact absurd (h.tname q) (by decide)
  unfold ofO
  rw [if_neg (by rw [hR];decide),hp]
  have e1:findI (fun x:Tk=>decide (x.1∈p.2.1)) t=-1:=by
    refine findI_no (List.any_eq_false.2 fun x hx q=>?_)
    have q:=(hv _).1 (of_decide_eq_true q)
    exact tok_nm.2.2.2.1 _ (h.tok x hx).1 (h.rname q)
  have eb:∀ x∈r,badR l p x=none:=fun x hx=>by
    unfold badR
    have e3:findI (fun n=>decide (symO p n<0)) x.2.1=-1:=by
      refine findI_no (List.any_eq_false.2 fun n hn q=>?_)
      have:=hs n (h.rnm x hx n hn)
      have:=of_decide_eq_true q
      omega
    rw [e3,if_neg (by decide),if_neg]
    rintro ⟨q1,q2⟩
    rcases h.prec x hx with q | ⟨_,y,hy,hn⟩
    · exact q1 q
    · exact levK_in (List.mem_flatMap.2 ⟨y,hy,hn⟩) q2
  have ez:badR l p (zzR (r.getD i rl0))=some zzN:=by
    unfold badR
    have e3:findI (fun n=>decide (symO p n<0)) (zzR (r.getD i rl0)).2.1=((r.getD i rl0).2.1.length:Nat):=by
      refine findI_hit (d:=[]) (by dsimp only;rw [List.length_append,List.length_singleton];omega) ?_ ?_
      · dsimp only
        rw [List.take_append_of_le_length (Nat.le_refl _),List.take_of_length_le (Nat.le_refl _)]
        refine List.any_eq_false.2 fun n hn q=>?_
        have:=hs n (h.rnm _ hm n hn)
        have:=of_decide_eq_true q
        omega
      · dsimp only
        rw [getD_last]
        show decide (symO p zzN<0)=true
        rw [hz];rfl
    rw [e3,if_pos (by omega),Int.toNat_natCast]
    dsimp only
    rw [getD_last]
  have e2:(r.set i (zzR (r.getD i rl0))).findSome? (badR l p)=some zzN:=by
    refine findSome_hit (d:=rl0) (k:=i) (by rw [List.length_set];exact hi) ?_ ?_
    · rw [List.take_set_of_le (Nat.le_refl _),List.findSome?_eq_none_iff]
      exact fun x hx=>eb x (List.mem_of_mem_take hx)
    · rw [List.getD_eq_getElem?_getD,List.getElem?_set_self hi];exact ez
  show (if 0≤findI (fun x:Tk=>decide (x.1∈p.2.1)) t then _ else _)=_
  rw [e1,if_neg (by decide)]
  have e4:unkO (smG t l (r.set i (zzR (r.getD i rl0)))) p=(zzN,true):=by
    unfold unkO
    dsimp only
    rw [e2]
  rw [e4];rfl
end Go.Am.D
