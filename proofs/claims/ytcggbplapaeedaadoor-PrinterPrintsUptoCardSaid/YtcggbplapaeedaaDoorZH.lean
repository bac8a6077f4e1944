/-
  A part of the proof of a law: see the text that states it.
-/
import Derived.Test.YtcggbplapaeedaaDoorZD
import Derived.Test.YtcggbplapaeedaaDoorVcN
import Derived.Test.YtcggbplapaeedaaDoorAm4
set_option linter.all false
namespace Go.Am.R
open Go Go.Am.Pr Go.Am.R.L
set_option maxRecDepth 100000
theorem escQ (c:Int):escB qT c=if c=10 then [92,110] else if c=9 then [92,116] else if c=92∨c=34 then [92,c] else [c]:=by
 unfold escB
 by_cases h:c=92∨c=34
 ·rw [if_pos h,if_pos ((idxB_qT c).2 h)]
 ·rw [if_neg h,if_neg (fun q=>h ((idxB_qT c).1 q))]
theorem idxB_cT' (c:Int):0≤idxB cT c↔c=92∨c=93∨c=45:=by
 rw [idxB_mem];simp [cT]
theorem escC (c:Int):escB cT c=if c=10 then [92,110] else if c=9 then [92,116] else if c=92∨c=93∨c=45 then [92,c] else [c]:=by
 unfold escB
 by_cases h:c=92∨c=93∨c=45
 ·rw [if_pos h,if_pos ((idxB_cT' c).2 h)]
 ·rw [if_neg h,if_neg (fun q=>h ((idxB_cT' c).1 q))]
abbrev whichT (b:Bool):List Int:=if b then cT else qT
theorem cut_one (s:List Int) (k:Nat) (h:k<s.length):cut s k (k+1)=[s.getD k 0]:=by
 unfold cut
 rw [List.drop_take,drop_cons (0:Int) h]
 have:k+1-k=1:=by omega
 rw [this];rfl
theorem refesc_ev (s:List Int) (b:Bool) (hs:s.length≤100000000):E 46 [sv s,bv b] [] (sv (escT (whichT b) s)) []:=by
  refine ev_of (vc46 s b _ ?_)
  have hbig:(1000000000:Nat)≤bigN:=by decide
  generalize bigN=big at hbig ⊢
  refine ⟨fun o z=>∃ k:Nat,z=k∧k≤s.length∧o.length≤2 * k∧o++escT (whichT b) (s.drop k)=escT (whichT b) s,fun _ z=>((s.length:Int)-z).toNat,⟨0,rfl,by omega,by simp,by simp⟩,?_⟩
  rintro o z ⟨k,rfl,hk,hbl,hv⟩
  refine ⟨fun h=>?_,fun h=>?_⟩
  · (simp only [decide_eq_true_eq,decide_eq_false_iff_not,Bool.not_eq_true',Bool.not_eq_false'] at h)
    have hk':k<s.length:=by omega
    have hd:s.drop k=s.getD k 0::s.drop (k+1):=drop_cons (0:Int) hk'
    have hcut:=cut_one s k hk'
    have e1:((k:Int)+1).toNat=k+1:=by omega
    rw [hd,escT_cons] at hv
    simp only [Int.toNat_natCast,e1,hcut]
    have inv:∀ p:List Int,escB (whichT b) (s.getD k 0)=p→p.length≤2→∃ k':Nat,(k:Int)+1=k'∧k'≤s.length∧(o++p).length≤2 * k'∧(o++p)++escT (whichT b) (s.drop k')=escT (whichT b) s:=by
      rintro p rfl hp
      exact ⟨k+1,by omega,by omega,by rw [List.length_append];omega,by rw [List.append_assoc];exact hv⟩
    have inv2:∀ p q:List Int,escB (whichT b) (s.getD k 0)=p++q→(p++q).length≤2→∃ k':Nat,(k:Int)+1=k'∧k'≤s.length∧((o++p)++q).length≤2 * k'∧((o++p)++q)++escT (whichT b) (s.drop k')=escT (whichT b) s:=by
      intro p q h1 h2
      have:=inv (p++q) h1 h2
      simpa only [List.append_assoc] using this
    clear hv hcut hd
    cases b
    · rw [show whichT false=qT from rfl,escQ] at inv inv2
      (repeat' (first | (intro _) | (refine And.intro ?_ ?_) | (refine Need.mk ?_)))
      all_goals (try simp only [decide_eq_true_eq,decide_eq_false_iff_not,Bool.not_false,Bool.not_true,reduceCtorEq] at *)
      all_goals first
        | omega
        | (simp only [List.length_append,List.length_cons,List.length_nil];omega)
        | exact inv _ (by repeat' split
                          all_goals first | rfl | omega) (by decide)
        | exact inv _ (by repeat' split
                          all_goals first | rfl | omega) (by simp)
        | exact inv2 _ _ (by repeat' split
                             all_goals first | rfl | omega) (by simp)
    · rw [show whichT true=cT from rfl,escC] at inv inv2
      (repeat' (first | (intro _) | (refine And.intro ?_ ?_) | (refine Need.mk ?_)))
      all_goals (try simp only [decide_eq_true_eq,decide_eq_false_iff_not,Bool.not_false,Bool.not_true,reduceCtorEq] at *)
      all_goals first
        | omega
        | (simp only [List.length_append,List.length_cons,List.length_nil];omega)
        | exact inv _ (by repeat' split
                          all_goals first | rfl | omega) (by decide)
        | exact inv _ (by repeat' split
                          all_goals first | rfl | omega) (by simp)
        | exact inv2 _ _ (by repeat' split
                             all_goals first | rfl | omega) (by simp)
  · (simp only [decide_eq_true_eq,decide_eq_false_iff_not,Bool.not_eq_true',Bool.not_eq_false'] at h)
    have hk':k=s.length:=by omega
    subst hk'
    rw [List.drop_length] at hv
    refine ⟨tvS ?_,rfl⟩
    rw [← hv];simp [escT]
theorem refpat_ev (p:Pat) (h1:p.1.length≤10000000) (h2:p.2.1.length≤10000000):E 26 [.tv [] tPat p] [] (sv (patT p)) []:=by
 obtain ⟨t,s,m,⟨⟩⟩:=p
 dsimp only at h1 h2
 have l1:=escT_len qT t
 have l2:=escT_len cT s
 refine ev_of (vc26 t s m _ ⟨fun h=>?_,fun h=>?_⟩)
 ·simp only [Bool.not_eq_true',decide_eq_false_iff_not] at h
  refine ⟨_,⟨refesc_ev t false (by omega)⟩,⟨by unfold bigN;show 1+(escT qT t).length≤_;omega⟩,⟨by rw [List.length_append,List.length_singleton];unfold bigN;show 1+(escT qT t).length+1≤_;omega⟩,?_⟩
  rw [patT,if_pos h];exact ⟨rfl,rfl⟩
 ·simp only [Bool.not_eq_false',decide_eq_true_eq] at h
  refine ⟨_,⟨refesc_ev s true (by omega)⟩,⟨by unfold bigN;show 1+(escT cT s).length≤_;omega⟩,⟨by rw [List.length_append,List.length_singleton];unfold bigN;show 1+(escT cT s).length+1≤_;omega⟩,fun hm=>⟨⟨by rw [List.length_append,List.length_append,List.length_singleton,List.length_singleton];unfold bigN;show 1+(escT cT s).length+1+1≤_;omega⟩,?_⟩,fun hm=>?_⟩
  ·rw [patT,if_neg (fun q=>q h),if_pos hm];exact ⟨rfl,rfl⟩
  ·rw [patT,if_neg (fun q=>q h),if_neg (by rw [show (t,s,m,()).2.2.1=m from rfl,hm];decide)];exact ⟨rfl,rfl⟩
theorem letter_plain {c:Int} (h:0≤c∧c<256):letterK c=decide (c=95∨(97≤c∧c≤122)∨(65≤c∧c≤90)):=by
 have:∀ n:Nat,n<256→letterK (n:Int)=decide ((n:Int)=95∨(97≤(n:Int)∧(n:Int)≤122)∨(65≤(n:Int)∧(n:Int)≤90)):=by decide +kernel
 have:=this c.toNat (by omega)
 have e:((c.toNat:Nat):Int)=c:=by omega
 rw [e] at this;exact this
theorem rletter_ev (c:Int) (hc:0≤c∧c<256):E 84 [.tv [] (.int .u8) c] [] (bv (letterK c)) []:=by
 refine ev_of (vc84 c _ ?_)
 rw [letter_plain hc]
 (repeat' (first | (intro _) | (refine And.intro ?_ ?_) | (refine Need.mk ?_)))
 all_goals (try exact rfl)
 all_goals (refine tvB ?_;simp only [decide_eq_true_eq,decide_eq_false_iff_not] at *;rw [eq_comm])
 all_goals first
  | (rw [decide_eq_true_eq];omega)
  | (rw [decide_eq_false_iff_not];omega)
  | (refine decide_eq_decide.2 ?_;omega)
theorem rdigit_ev (c:Int):E 85 [.tv [] (.int .u8) c] [] (bv (decide (48≤c)&&decide (c≤57))) []:=by
 refine ev_of (vc85 c _ ⟨fun h=>?_,fun h=>?_⟩)
 ·rw [h];exact ⟨rfl,rfl⟩
 ·rw [h];exact ⟨rfl,rfl⟩
theorem run_take (p:Int→Bool):∀ (s:List Int),(∀ c∈s,p c=true)→runK p s=s.length
 | [],_=>rfl
 | c::s,h=>by rw [runK,if_pos (h c (List.mem_cons_self ..)),run_take p s fun b hb=>h b (List.mem_cons_of_mem _ hb)];rfl
theorem rname_ev (s:List Int) (hl:s.length≤100000000) (hs:∀ c∈s,0≤c∧c<256):E 65 [sv s] [] (bv (nameK s)) []:=by
 have no:∀ k,k<s.length→partK (s.getD k 0)=false→nameK s=false:=by
  intro k hk hp
  cases hn:nameK s with
  | false=>rfl
  | true =>
   unfold nameK at hn
   simp only [Bool.and_eq_true,Bool.not_eq_true',decide_eq_true_eq,decide_eq_false_iff_not] at hn
   have:=runK_all partK s hn.2 _ (getD_mem' (0:Int) s k hk)
   rw [hp] at this;cases this
 refine ev_of (vc65 s _ ?_)
 refine ⟨fun z=>∃ k:Nat,z=k∧k≤s.length∧(∀ c∈s.take k,partK c=true)∧(0<k→letterK (s.getD 0 0)=true),fun z=>((s.length:Int)-z).toNat,⟨0,rfl,by omega,by simp,by omega⟩,?_⟩
 rintro z ⟨k,rfl,hk,hv,h0⟩
 refine ⟨fun h=>?_,fun h=>?_⟩
 ·(simp only [decide_eq_true_eq,decide_eq_false_iff_not,Bool.not_eq_true',Bool.not_eq_false'] at h)
  have hk':k<s.length:=by omega
  have hm:=getD_mem' (0:Int) s k hk'
  rw [Int.toNat_natCast]
  have next:partK (s.getD k 0)=true→(∀ c∈s.take (k+1),partK c=true):=by
   intro hp c hc
   rw [take_snoc (0:Int) hk'] at hc
   rcases List.mem_append.1 hc with q | q
   ·exact hv c q
   ·rw [List.mem_singleton] at q;subst q;exact hp
  refine ⟨⟨by omega⟩,_,⟨rletter_ev _ (hs _ hm)⟩,fun h1=>⟨fun h2=>⟨tvB ?_,rfl⟩,fun h2=>⟨⟨by omega⟩,_,⟨rdigit_ev _⟩,fun h3=>⟨tvB ?_,rfl⟩,fun h3=>⟨⟨by omega⟩,⟨k+1,by omega,by omega,?_,?_⟩,⟨by ((try dsimp only);omega)⟩⟩⟩⟩,fun h1=>⟨⟨by omega⟩,⟨k+1,by omega,by omega,?_,?_⟩,⟨by ((try dsimp only);omega)⟩⟩⟩
  ·(simp only [decide_eq_true_eq,decide_eq_false_iff_not,Bool.not_eq_true',Bool.not_eq_false'] at h1 h2)
   have:k=0:=by omega
   subst this
   unfold nameK
   rw [h1];simp
  ·(simp only [decide_eq_true_eq,decide_eq_false_iff_not,Bool.not_eq_true',Bool.not_eq_false'] at h1 h3)
   rw [no k hk' (by unfold partK;rw [h1,h3];rfl)]
  ·(simp only [decide_eq_true_eq,decide_eq_false_iff_not,Bool.not_eq_true',Bool.not_eq_false'] at h1 h3)
   exact next (by unfold partK;rw [h3];simp)
  ·(simp only [decide_eq_true_eq,decide_eq_false_iff_not,Bool.not_eq_true',Bool.not_eq_false'] at h2)
   intro _;exact h0 (by omega)
  ·(simp only [decide_eq_true_eq,decide_eq_false_iff_not,Bool.not_eq_true',Bool.not_eq_false'] at h1)
   exact next (by unfold partK;rw [h1];rfl)
  ·(simp only [decide_eq_true_eq,decide_eq_false_iff_not,Bool.not_eq_true',Bool.not_eq_false'] at h1)
   intro _
   by_cases hk0:k=0
   ·subst hk0;exact h1
   ·exact h0 (by omega)
 ·(simp only [decide_eq_true_eq,decide_eq_false_iff_not,Bool.not_eq_true',Bool.not_eq_false'] at h)
  rw [List.take_of_length_le (by omega)] at hv
  refine ⟨tvB ?_,rfl⟩
  unfold nameK
  rw [run_take partK s hv]
  by_cases he:s=[]
  ·subst he;rfl
  ·have:=List.length_pos_iff.2 he
   rw [h0 (by omega)];simp [he]
theorem rnameO_ev (s:List Int) (hs:∀ c∈s,0≤c∧c<256):E 47 [sv s] [] (bv (nameO s)) []:=by
 refine ev_of (vc47 s _ ⟨fun h=>?_,fun h=>?_⟩)
 ·(simp only [decide_eq_true_eq,decide_eq_false_iff_not,Bool.not_eq_true',Bool.not_eq_false'] at h)
  refine ⟨_,⟨rname_ev s (by omega) hs⟩,tvB ?_,rfl⟩
  rw [nameO,decide_eq_true (show s.length≤32 by omega),Bool.true_and]
 ·(simp only [decide_eq_true_eq,decide_eq_false_iff_not,Bool.not_eq_true',Bool.not_eq_false'] at h)
  refine ⟨tvB ?_,rfl⟩
  rw [nameO,decide_eq_false (show ¬ s.length≤32 by omega),Bool.false_and]
theorem rpatO_ev (p:Pat) (hl:p.2.1.length≤100000000):E 48 [.tv [] tPat p] [] (bv (patO p)) []:=by
 obtain ⟨t,s,m,⟨⟩⟩:=p
 dsimp only at hl
 refine ev_of (vc48 t s m _ ⟨fun h=>?_,fun h=>?_⟩)
 ·simp only [Bool.not_eq_true',decide_eq_false_iff_not] at h
  rw [patO,if_pos h]
  refine ⟨fun h1=>⟨fun h2=>⟨tvB ?_,rfl⟩,fun h2=>⟨tvB ?_,rfl⟩⟩,fun h1=>⟨tvB ?_,rfl⟩⟩
  ·(simp only [decide_eq_true_eq,decide_eq_false_iff_not,Bool.not_eq_true',Bool.not_eq_false'] at h1 h2)
   rw [decide_eq_true (show t.length≤32 by omega),decide_eq_true h2];rfl
  ·(simp only [decide_eq_true_eq,decide_eq_false_iff_not,Bool.not_eq_true',Bool.not_eq_false'] at h1 h2)
   rw [decide_eq_false h2,Bool.and_false];rfl
  ·(simp only [decide_eq_true_eq,decide_eq_false_iff_not,Bool.not_eq_true',Bool.not_eq_false'] at h1)
   rw [decide_eq_false (show ¬ t.length≤32 by omega)];rfl
 ·simp only [Bool.not_eq_false',decide_eq_true_eq] at h
  rw [patO,if_neg (fun q=>q h)]
  refine ⟨fun z=>∃ k:Nat,z=((k+1:Nat):Int)∧k≤s.length∧rise (s.drop k)=rise s,fun z=>((s.length:Int)-z).toNat,⟨0,rfl,by omega,rfl⟩,?_⟩
  rintro z ⟨k,rfl,hk,hv⟩
  refine ⟨fun h1=>?_,fun h1=>?_⟩
  ·(simp only [decide_eq_true_eq,decide_eq_false_iff_not,Bool.not_eq_true',Bool.not_eq_false'] at h1)
   have e1:(((k+1:Nat):Int)-1).toNat=k:=by omega
   rw [e1,Int.toNat_natCast]
   rw [rise_cons (by omega)] at hv
   refine ⟨⟨by omega⟩,⟨by omega⟩,⟨by omega⟩,fun h2=>⟨tvB ?_,rfl⟩,fun h2=>⟨⟨by omega⟩,⟨k+1,by omega,by omega,?_⟩,⟨by ((try dsimp only);omega)⟩⟩⟩
   ·(simp only [decide_eq_true_eq,decide_eq_false_iff_not,Bool.not_eq_true',Bool.not_eq_false'] at h2)
    rw [if_pos h2] at hv
    rw [← hv];rfl
   ·(simp only [decide_eq_true_eq,decide_eq_false_iff_not,Bool.not_eq_true',Bool.not_eq_false'] at h2)
    rw [if_neg h2] at hv;exact hv
  ·(simp only [decide_eq_true_eq,decide_eq_false_iff_not,Bool.not_eq_true',Bool.not_eq_false'] at h1)
   have e:rise (s.drop k)=true:=by
    have hd:(s.drop k).length≤1:=by rw [List.length_drop];omega
    match s.drop k,hd with
    | [],_=>rfl
    | [a],_=>rfl
   rw [e] at hv
   refine ⟨tvB ?_,rfl⟩
   rw [← hv,Bool.true_and]
theorem ractO_ev (s:List Int):E 49 [sv s] [] (bv (actO s)) []:=by
 refine ev_of (vc49 s _ ⟨fun h=>?_,fun h=>?_⟩)
 ·(simp only [decide_eq_true_eq,decide_eq_false_iff_not,Bool.not_eq_true',Bool.not_eq_false'] at h)
  refine ⟨tvB ?_,rfl⟩
  rw [actO,decide_eq_false (by omega)];rfl
 (simp only [decide_eq_true_eq,decide_eq_false_iff_not,Bool.not_eq_true',Bool.not_eq_false'] at h)
 have e0:actO s=openK 1 s:=by rw [actO,decide_eq_true (by omega),Bool.true_and]
 rw [e0]
 refine ⟨fun d z=>∃ k:Nat,z=k∧k≤s.length∧1≤d∧d≤4∧openK d (s.drop k)=openK 1 s,fun _ z=>((s.length:Int)-z).toNat,⟨0,rfl,by omega,by omega,by omega,rfl⟩,?_⟩
 rintro d z ⟨k,rfl,hk,hd1,hd4,hv⟩
 refine ⟨fun h1=>?_,fun h1=>?_⟩
 ·(simp only [decide_eq_true_eq,decide_eq_false_iff_not,Bool.not_eq_true',Bool.not_eq_false'] at h1)
  have hk':k<s.length:=by omega
  rw [drop_cons (0:Int) hk',openK] at hv
  rw [Int.toNat_natCast]
  refine ⟨⟨by omega⟩,fun h2=>⟨⟨by omega⟩,⟨by omega⟩,fun h3=>?_,fun h3=>⟨fun h4=>⟨tvB ?_,rfl⟩,fun h4=>⟨fun h5=>?_,fun h5=>⟨⟨by omega⟩,⟨k+1,by omega,by omega,by omega,?_,?_⟩,⟨by ((try dsimp only);omega)⟩⟩⟩⟩⟩,fun h2=>⟨⟨by omega⟩,fun h3=>⟨⟨by omega⟩,fun h4=>?_,fun h4=>⟨fun h5=>⟨tvB ?_,rfl⟩,fun h5=>⟨⟨by omega⟩,⟨k+1,by omega,by omega,?_,by omega,?_⟩,⟨by ((try dsimp only);omega)⟩⟩⟩⟩,fun h3=>⟨fun h4=>?_,fun h4=>⟨fun h5=>?_,fun h5=>⟨⟨by omega⟩,⟨k+1,by omega,by omega,by omega,by omega,?_⟩,⟨by ((try dsimp only);omega)⟩⟩⟩⟩⟩⟩
  ·(simp only [decide_eq_true_eq,decide_eq_false_iff_not,Bool.not_eq_true',Bool.not_eq_false'] at h2 h3);omega
  ·(simp only [decide_eq_true_eq,decide_eq_false_iff_not,Bool.not_eq_true',Bool.not_eq_false'] at h2 h3 h4)
   rw [if_pos h2,if_pos (.inl h4)] at hv;rw [← hv]
  ·(simp only [decide_eq_true_eq,decide_eq_false_iff_not,Bool.not_eq_true',Bool.not_eq_false'] at h5);omega
  ·(simp only [decide_eq_true_eq,decide_eq_false_iff_not,Bool.not_eq_true',Bool.not_eq_false'] at h4);omega
  ·(simp only [decide_eq_true_eq,decide_eq_false_iff_not,Bool.not_eq_true',Bool.not_eq_false'] at h2 h4 h5)
   rw [if_pos h2,if_neg (by omega)] at hv;exact hv
  ·(simp only [decide_eq_true_eq,decide_eq_false_iff_not,Bool.not_eq_true',Bool.not_eq_false'] at h4);omega
  ·(simp only [decide_eq_true_eq,decide_eq_false_iff_not,Bool.not_eq_true',Bool.not_eq_false'] at h2 h3 h5)
   rw [if_neg h2,if_pos h3,if_pos (.inr h5)] at hv;rw [← hv]
  ·(simp only [decide_eq_true_eq,decide_eq_false_iff_not,Bool.not_eq_true',Bool.not_eq_false'] at h5);omega
  ·(simp only [decide_eq_true_eq,decide_eq_false_iff_not,Bool.not_eq_true',Bool.not_eq_false'] at h2 h3 h5)
   rw [if_neg h2,if_pos h3,if_neg (by omega)] at hv;exact hv
  ·(simp only [decide_eq_true_eq,decide_eq_false_iff_not,Bool.not_eq_true',Bool.not_eq_false'] at h4);omega
  ·(simp only [decide_eq_true_eq,decide_eq_false_iff_not,Bool.not_eq_true',Bool.not_eq_false'] at h5);omega
  ·(simp only [decide_eq_true_eq,decide_eq_false_iff_not,Bool.not_eq_true',Bool.not_eq_false'] at h2 h3)
   rw [if_neg h2,if_neg h3,if_neg (by omega)] at hv;exact hv
 ·(simp only [decide_eq_true_eq,decide_eq_false_iff_not,Bool.not_eq_true',Bool.not_eq_false'] at h1)
  rw [List.drop_eq_nil_of_le (by omega),openK] at hv
  refine ⟨tvB ?_,rfl⟩
  rw [← hv]
end Go.Am.R
namespace Go.Am.R
open Go Go.Am.Pr Go.Am.R.L
set_option maxRecDepth 100000
def sumM {α:Type} (f:α→Nat) (l:List α):Nat:=(l.map f).sum
theorem sumM_cons {α:Type} (f:α→Nat) (a:α) (l:List α):sumM f (a::l)=f a+sumM f l:=by simp [sumM]
theorem sumM_app {α:Type} (f:α→Nat) (a b:List α):sumM f (a++b)=sumM f a+sumM f b:=by simp [sumM]
theorem sumM_snoc {α:Type} (f:α→Nat) (d:α) {l:List α} {k:Nat} (hk:k<l.length):sumM f (l.take (k+1))=sumM f (l.take k)+f (l.getD k d):=by
 rw [take_snoc d hk,sumM_app];simp [sumM]
theorem sumM_take {α:Type} (f:α→Nat) (l:List α) (k:Nat):sumM f (l.take k)≤sumM f l:=by
 have:sumM f l=sumM f (l.take k)+sumM f (l.drop k):=by rw [← sumM_app,List.take_append_drop]
 omega
theorem sumM_mem {α:Type} (f:α→Nat) {l:List α} {x:α} (h:x∈l):f x≤sumM f l:=by
 obtain ⟨a,b,rfl⟩:=List.append_of_mem h
 rw [sumM_app,sumM_cons];omega
theorem sumM_le {α:Type} (f g:α→Nat):∀ (l:List α),(∀ x∈l,f x≤g x)→sumM f l≤sumM g l
 | [],_=>Nat.le_refl _
 | a::l,h=>by
  have h1:=h a (List.mem_cons_self ..)
  have h2:=sumM_le f g l fun x hx=>h x (List.mem_cons_of_mem _ hx)
  rw [sumM_cons,sumM_cons];omega
theorem sumM_len {α:Type} (f:α→Nat):∀ (l:List α),(∀ x∈l,1≤f x)→l.length≤sumM f l
 | [],_=>Nat.zero_le _
 | a::l,h=>by
  have h1:=h a (List.mem_cons_self ..)
  have h2:=sumM_len f l fun x hx=>h x (List.mem_cons_of_mem _ hx)
  rw [sumM_cons,List.length_cons];omega
abbrev nmW (l:List qT0):Nat:=sumM (fun x=>x.length+1) l
theorem w_tk (t:Tk):wT tTk t=t.1.length+1+((t.2.1.1.length+1+(t.2.1.2.1.length+1+(0+0)))+0):=rfl
theorem w_sk (p:Pat):wT tPat p=p.1.length+1+(p.2.1.length+1+(0+0)):=rfl
theorem w_lv (x:Lv):wT tLv x=0+(nmW x.2.1+1+0):=rfl
theorem w_rl (r:Rl):wT tRl r=r.1.length+1+(nmW r.2.1+1+(r.2.2.1.length+1+(r.2.2.2.1.length+1+0))):=rfl
theorem w_gr (g:Gr):wT tGr g=sumM (wT tTk) g.1+1+(sumM (wT tPat) g.2.1+1+(sumM (wT tLv) g.2.2.1+1+(g.2.2.2.1.length+1+(sumM (wT tRl) g.2.2.2.2.1+1+0)))):=rfl
def fTk (t:Tk):Nat:=t.1.length+t.2.1.1.length+t.2.1.2.1.length
def fSk (p:Pat):Nat:=p.1.length+p.2.1.length
def fLv (x:Lv):Nat:=nmW x.2.1
def fRl (r:Rl):Nat:=r.1.length+r.2.2.1.length+r.2.2.2.1.length+nmW r.2.1
def cntN (g:Gr):Nat:=g.1.length+g.2.1.length+g.2.2.1.length+g.2.2.2.2.1.length
def fewN (g:Gr):Nat:=cntN g+sumM fTk g.1+sumM fSk g.2.1+sumM fLv g.2.2.1+sumM fRl g.2.2.2.2.1
def fewB (g:Gr):Bool:=!decide (60<cntN g)&&decide (fewN g≤1500)
structure Bd (g:Gr) (W:Nat):Prop where
 tk:g.1.length≤W
 tks:sumM fTk g.1≤W
 sk:g.2.1.length≤W
 sks:sumM fSk g.2.1≤W
 lv:g.2.2.1.length≤W
 lvs:sumM fLv g.2.2.1≤W
 rl:g.2.2.2.2.1.length≤W
 rls:sumM fRl g.2.2.2.2.1≤W
theorem Bd.of {g:Gr} {W:Nat} (h:wT tGr g≤W):Bd g W:=by
 rw [w_gr] at h
 have a1:=sumM_len (wT tTk) g.1 fun t _=>by rw [w_tk];omega
 have a2:=sumM_len (wT tPat) g.2.1 fun t _=>by rw [w_sk];omega
 have a3:=sumM_len (wT tLv) g.2.2.1 fun t _=>by rw [w_lv];omega
 have a4:=sumM_len (wT tRl) g.2.2.2.2.1 fun t _=>by rw [w_rl];omega
 have b1:=sumM_le fTk (wT tTk) g.1 fun t _=>by rw [w_tk,fTk];omega
 have b2:=sumM_le fSk (wT tPat) g.2.1 fun t _=>by rw [w_sk,fSk];omega
 have b3:=sumM_le fLv (wT tLv) g.2.2.1 fun t _=>by rw [w_lv,fLv];omega
 have b4:=sumM_le fRl (wT tRl) g.2.2.2.2.1 fun t _=>by rw [w_rl,fRl];omega
 exact ⟨by omega,by omega,by omega,by omega,by omega,by omega,by omega,by omega⟩
theorem few_ev (g:Gr) (hg:wT tGr g≤1048576):E 19 [.tv [] tGr g] [] (bv (fewB g)) []:=by
 have bd:=Bd.of hg
 obtain ⟨tk,sk,lv,st,rl,⟨⟩⟩:=g
 have f1:=bd.tk
 have f2:=bd.tks
 have f3:=bd.sk
 have f4:=bd.sks
 have f5:=bd.lv
 have f6:=bd.lvs
 have f7:=bd.rl
 have f8:=bd.rls
 dsimp only at f1 f2 f3 f4 f5 f6 f7 f8
 clear hg bd
 have hfb:fewB (tk,(sk,(lv,(st,(rl,())))))=(!decide (60<tk.length+sk.length+lv.length+rl.length)&&decide (tk.length+sk.length+lv.length+rl.length+sumM fTk tk+sumM fSk sk+sumM fLv lv+sumM fRl rl≤1500)):=rfl
 rw [hfb]
 refine ev_of (vc19 tk sk lv st rl _ ⟨⟨by omega⟩,⟨by omega⟩,⟨by omega⟩,fun h=>?_,fun h=>?_⟩)
 ·(simp only [decide_eq_true_eq,decide_eq_false_iff_not,Bool.not_eq_true',Bool.not_eq_false'] at h)
  refine ⟨tvB ?_,rfl⟩
  rw [decide_eq_true (show 60<tk.length+sk.length+lv.length+rl.length by omega)];rfl
 (simp only [decide_eq_true_eq,decide_eq_false_iff_not,Bool.not_eq_true',Bool.not_eq_false'] at h)
 rw [decide_eq_false (show ¬ 60<tk.length+sk.length+lv.length+rl.length by omega),Bool.not_false,Bool.true_and]
 generalize hC:tk.length+sk.length+lv.length+rl.length=C
 have hC':(tk.length:Int)+(sk.length:Int)+(lv.length:Int)+(rl.length:Int)=(C:Int):=by omega
 have hCb:C≤60:=by omega
 rw [hC']
 clear hC hC' h hfb
 refine ⟨fun n z=>∃ k:Nat,z=k∧k≤tk.length∧n=((C+sumM fTk (tk.take k):Nat):Int),fun _ z=>((tk.length:Int)-z).toNat,⟨0,rfl,by omega,rfl⟩,?_⟩
 rintro n z ⟨k,rfl,hk,rfl⟩
 refine ⟨fun h=>?_,fun h=>?_⟩
 ·(simp only [decide_eq_true_eq,decide_eq_false_iff_not,Bool.not_eq_true',Bool.not_eq_false'] at h)
  have hk':k<tk.length:=by omega
  have e:=sumM_snoc fTk (([]:List Int),(([],([],(false,()))),())) hk'
  have l1:=sumM_take fTk tk (k+1)
  rw [e] at l1
  rw [Int.toNat_natCast]
  have fe:fTk (tk.getD k (([]:List Int),(([],([],(false,()))),())))=(tk.getD k (([]:List Int),(([],([],(false,()))),()))).1.length+(tk.getD k (([]:List Int),(([],([],(false,()))),()))).2.1.1.length+(tk.getD k (([]:List Int),(([],([],(false,()))),()))).2.1.2.1.length:=rfl
  refine ⟨⟨by omega⟩,⟨by omega⟩,⟨by omega⟩,⟨by omega⟩,⟨by omega⟩,⟨by omega⟩,⟨by omega⟩,⟨k+1,by omega,by omega,?_⟩,⟨by ((try dsimp only);omega)⟩⟩
  rw [e];omega
 (simp only [decide_eq_true_eq,decide_eq_false_iff_not,Bool.not_eq_true',Bool.not_eq_false'] at h)
 rw [show tk.take k=tk from List.take_of_length_le (by omega)]
 clear h hk k
 generalize hC1:C+sumM fTk tk=C1
 refine ⟨fun n z=>∃ k:Nat,z=k∧k≤sk.length∧n=((C1+sumM fSk (sk.take k):Nat):Int),fun _ z=>((sk.length:Int)-z).toNat,⟨0,rfl,by omega,rfl⟩,?_⟩
 rintro n z ⟨k,rfl,hk,rfl⟩
 refine ⟨fun h=>?_,fun h=>?_⟩
 ·(simp only [decide_eq_true_eq,decide_eq_false_iff_not,Bool.not_eq_true',Bool.not_eq_false'] at h)
  have hk':k<sk.length:=by omega
  have e:=sumM_snoc fSk (([]:List Int),(([]:List Int),(false,()))) hk'
  have l1:=sumM_take fSk sk (k+1)
  rw [e] at l1
  rw [Int.toNat_natCast]
  have fe:fSk (sk.getD k (([]:List Int),(([]:List Int),(false,()))))=(sk.getD k (([]:List Int),(([]:List Int),(false,())))).1.length+(sk.getD k (([]:List Int),(([]:List Int),(false,())))).2.1.length:=rfl
  refine ⟨⟨by omega⟩,⟨by omega⟩,⟨by omega⟩,⟨by omega⟩,⟨by omega⟩,⟨k+1,by omega,by omega,?_⟩,⟨by ((try dsimp only);omega)⟩⟩
  rw [e];omega
 (simp only [decide_eq_true_eq,decide_eq_false_iff_not,Bool.not_eq_true',Bool.not_eq_false'] at h)
 rw [show sk.take k=sk from List.take_of_length_le (by omega)]
 clear h hk k
 generalize hC2:C1+sumM fSk sk=C2
 refine ⟨fun n z=>∃ k:Nat,z=k∧k≤lv.length∧n=((C2+sumM fLv (lv.take k):Nat):Int),fun _ z=>((lv.length:Int)-z).toNat,⟨0,rfl,by omega,rfl⟩,?_⟩
 rintro n z ⟨k,rfl,hk,rfl⟩
 refine ⟨fun h=>?_,fun h=>?_⟩
 ·(simp only [decide_eq_true_eq,decide_eq_false_iff_not,Bool.not_eq_true',Bool.not_eq_false'] at h)
  have hk':k<lv.length:=by omega
  have e:=sumM_snoc fLv ((0:Int),(([]:List qT0),())) hk'
  have l1:=sumM_take fLv lv (k+1)
  rw [e] at l1
  have fe:fLv (lv.getD k ((0:Int),(([]:List qT0),())))=nmW (lv.getD k ((0:Int),(([]:List qT0),()))).2.1:=rfl
  rw [Int.toNat_natCast]
  refine ⟨fun n z=>∃ j:Nat,z=j∧j≤(lv.getD k ((0:Int),(([]:List qT0),()))).2.1.length∧n=((C2+sumM fLv (lv.take k)+nmW ((lv.getD k ((0:Int),(([]:List qT0),()))).2.1.take j):Nat):Int),fun _ z=>(((lv.getD k ((0:Int),(([]:List qT0),()))).2.1.length:Int)-z).toNat,⟨0,rfl,by omega,rfl⟩,?_⟩
  rintro n z ⟨j,rfl,hj,rfl⟩
  refine ⟨⟨by omega⟩,fun h1=>?_,fun h1=>?_⟩
  ·(simp only [decide_eq_true_eq,decide_eq_false_iff_not,Bool.not_eq_true',Bool.not_eq_false'] at h1)
   have hj':j<(lv.getD k ((0:Int),(([]:List qT0),()))).2.1.length:=by omega
   have e1:nmW ((lv.getD k ((0:Int),(([]:List qT0),()))).2.1.take (j+1))=nmW ((lv.getD k ((0:Int),(([]:List qT0),()))).2.1.take j)+(((lv.getD k ((0:Int),(([]:List qT0),()))).2.1.getD j []).length+1):=sumM_snoc (fun x:List Int=>x.length+1) ([]:List Int) hj'
   have l2:nmW ((lv.getD k ((0:Int),(([]:List qT0),()))).2.1.take (j+1))≤nmW (lv.getD k ((0:Int),(([]:List qT0),()))).2.1:=sumM_take (fun x:List Int=>x.length+1) (lv.getD k ((0:Int),(([]:List qT0),()))).2.1 (j+1)
   rw [e1] at l2
   have l3:(lv.getD k ((0:Int),(([]:List qT0),()))).2.1.length≤nmW (lv.getD k ((0:Int),(([]:List qT0),()))).2.1:=sumM_len (fun x:List Int=>x.length+1) _ fun _ _=>by omega
   rw [Int.toNat_natCast]
   refine ⟨⟨by omega⟩,⟨by omega⟩,⟨by omega⟩,⟨by omega⟩,⟨by omega⟩,⟨j+1,by omega,by omega,?_⟩,⟨by ((try dsimp only);omega)⟩⟩
   rw [e1];omega
  ·(simp only [decide_eq_true_eq,decide_eq_false_iff_not,Bool.not_eq_true',Bool.not_eq_false'] at h1)
   rw [show (lv.getD k ((0:Int),(([]:List qT0),()))).2.1.take j=(lv.getD k ((0:Int),(([]:List qT0),()))).2.1 from List.take_of_length_le (by omega)]
   refine ⟨⟨by omega⟩,⟨k+1,by omega,by omega,?_⟩,⟨by ((try dsimp only);omega)⟩⟩
   rw [e];omega
 (simp only [decide_eq_true_eq,decide_eq_false_iff_not,Bool.not_eq_true',Bool.not_eq_false'] at h)
 rw [show lv.take k=lv from List.take_of_length_le (by omega)]
 clear h hk k
 generalize hC3:C2+sumM fLv lv=C3
 refine ⟨fun n z=>∃ k:Nat,z=k∧k≤rl.length∧n=((C3+sumM fRl (rl.take k):Nat):Int),fun _ z=>((rl.length:Int)-z).toNat,⟨0,rfl,by omega,rfl⟩,?_⟩
 rintro n z ⟨k,rfl,hk,rfl⟩
 refine ⟨fun h=>?_,fun h=>?_⟩
 ·(simp only [decide_eq_true_eq,decide_eq_false_iff_not,Bool.not_eq_true',Bool.not_eq_false'] at h)
  have hk':k<rl.length:=by omega
  have e:=sumM_snoc fRl (([]:List Int),(([]:List qT0),(([]:List Int),(([]:List Int),())))) hk'
  have l1:=sumM_take fRl rl (k+1)
  rw [e] at l1
  rw [Int.toNat_natCast]
  generalize hr:rl.getD k (([]:List Int),(([]:List qT0),(([]:List Int),(([]:List Int),()))))=r at e l1 ⊢
  have fe:fRl r=r.1.length+r.2.2.1.length+r.2.2.2.1.length+nmW r.2.1:=rfl
  refine ⟨⟨by omega⟩,⟨by omega⟩,⟨by omega⟩,⟨by omega⟩,⟨by omega⟩,⟨by omega⟩,?_⟩
  refine ⟨fun n z=>∃ j:Nat,z=j∧j≤r.2.1.length∧n=((C3+sumM fRl (rl.take k)+(r.1.length+r.2.2.1.length+r.2.2.2.1.length)+nmW (r.2.1.take j):Nat):Int),fun _ z=>((r.2.1.length:Int)-z).toNat,⟨0,rfl,by omega,?_⟩,?_⟩
  ·show _=((C3+sumM fRl (rl.take k)+(r.1.length+r.2.2.1.length+r.2.2.2.1.length)+0:Nat):Int);omega
  rintro n z ⟨j,rfl,hj,rfl⟩
  refine ⟨⟨by omega⟩,fun h1=>?_,fun h1=>?_⟩
  ·(simp only [decide_eq_true_eq,decide_eq_false_iff_not,Bool.not_eq_true',Bool.not_eq_false'] at h1)
   have hj':j<r.2.1.length:=by omega
   have e1:nmW (r.2.1.take (j+1))=nmW (r.2.1.take j)+((r.2.1.getD j []).length+1):=sumM_snoc (fun x:List Int=>x.length+1) ([]:List Int) hj'
   have l2:nmW (r.2.1.take (j+1))≤nmW r.2.1:=sumM_take (fun x:List Int=>x.length+1) r.2.1 (j+1)
   rw [e1] at l2
   have l3:r.2.1.length≤nmW r.2.1:=sumM_len (fun x:List Int=>x.length+1) _ fun _ _=>by omega
   rw [Int.toNat_natCast]
   refine ⟨⟨by omega⟩,⟨by omega⟩,⟨by omega⟩,⟨by omega⟩,⟨by omega⟩,⟨j+1,by omega,by omega,?_⟩,⟨by ((try dsimp only);omega)⟩⟩
   rw [e1];omega
  ·(simp only [decide_eq_true_eq,decide_eq_false_iff_not,Bool.not_eq_true',Bool.not_eq_false'] at h1)
   rw [show r.2.1.take j=r.2.1 from List.take_of_length_le (by omega)]
   refine ⟨⟨by omega⟩,⟨k+1,by omega,by omega,?_⟩,⟨by ((try dsimp only);omega)⟩⟩
   rw [e];omega
 (simp only [decide_eq_true_eq,decide_eq_false_iff_not,Bool.not_eq_true',Bool.not_eq_false'] at h)
 rw [show rl.take k=rl from List.take_of_length_le (by omega)]
 refine ⟨tvB (decide_eq_decide.2 ?_),rfl⟩
 omega
theorem few_of {g:Gr} (h:fewB g=true) (ha:∀ r∈g.2.2.2.2.1,ActB r):Few g:=by
  simp only [fewB,Bool.and_eq_true,Bool.not_eq_true',decide_eq_true_eq,decide_eq_false_iff_not] at h
  obtain ⟨h1,h2⟩:=h
  unfold fewN at h2
  unfold cntN at h1 h2
  refine ⟨by omega,fun t ht=>?_,by omega,fun p hp=>?_,by omega,?_,by omega,fun r hr=>?_,ha⟩
  · have h3:=sumM_mem fTk ht
    have fe:fTk t=t.1.length+t.2.1.1.length+t.2.1.2.1.length:=rfl
    omega
  · have h3:=sumM_mem fSk hp
    have fe:fSk p=p.1.length+p.2.1.length:=rfl
    omega
  · have key : ∀ l : List Lv, (l.flatMap (·.2.1)).length ≤ sumM fLv l := by
      intro l
      induction l with
      | nil=>exact Nat.zero_le _
      | cons x l ih =>
        have:x.2.1.length≤nmW x.2.1:=sumM_len (fun x:List Int=>x.length+1) x.2.1 fun _ _=>by omega
        rw [List.flatMap_cons,List.length_append,sumM_cons]
        have fe:fLv x=nmW x.2.1:=rfl
        omega
    have:=key g.2.2.1
    omega
  · have h3:=sumM_mem fRl hr
    have h4:r.2.1.length≤nmW r.2.1:=sumM_len (fun x:List Int=>x.length+1) r.2.1 fun _ _=>by omega
    have fe:fRl r=r.1.length+r.2.2.1.length+r.2.2.2.1.length+nmW r.2.1:=rfl
    refine ⟨by omega,by omega,fun x hx=>?_,by omega,by omega⟩
    have:x.length+1≤nmW r.2.1:=sumM_mem (fun x:List Int=>x.length+1) hx
    omega
end Go.Am.R
namespace Go.Am.R
open Go Go.Am.Pr Go.Am.R.L
set_option maxRecDepth 100000
def spW (l:List qT0):List Int:=l.flatMap fun y=>[32]++y
theorem spW_cons (a:List Int) (l:List qT0):spW (a::l)=[32]++a++spW l:=rfl
theorem spW_app (a b:List qT0):spW (a++b)=spW a++spW b:=by simp [spW]
theorem spW_len:∀ l:List qT0,(spW l).length=nmW l
 | []=>rfl
 | a::l=>by
  rw [spW_cons,List.length_append,List.length_append,spW_len l,List.length_singleton]
  show _=sumM (fun x:List Int=>x.length+1) (a::l)
  rw [sumM_cons]
  show 1+a.length+sumM (fun x:List Int=>x.length+1) l=_
  omega
theorem spW_snoc {l:List qT0} {k:Nat} (hk:k<l.length):spW (l.take (k+1))=(spW (l.take k)++[32])++l.getD k []:=by
 rw [take_snoc ([]:List Int) hk,spW_app,List.append_assoc];simp [spW]
theorem join_sp:∀ (l:List qT0) (a:List Int),joinL [32] (a::l)=a++spW l
 | [],a=>by rw [joinL_one];simp [spW]
 | b::l,a=>by rw [joinL_cons,join_sp l b,spW_cons];simp
theorem ruleT_eq (r:Rl):ruleT r=r.1++[32,58]++spW r.2.1++(if r.2.2.1=[] then [] else [32,37,112,114,101,99,32]++r.2.2.1)++(if r.2.2.2.1=[] then [] else [32,123]++r.2.2.2.1++[125])++[32,59]:=by
 unfold ruleT partsT
 have e:∀ P A:List qT0,([r.1,[58]]++r.2.1++P++(A++[[59]]))=r.1::([58]::r.2.1++P++A++[[59]]):=by intro P A;simp
 rw [e,join_sp,spW_app,spW_app,spW_app,spW_cons]
 have e2:spW [[59]]=[32,59]:=rfl
 rw [e2]
 split <;> split <;> simp [spW,precW]
theorem rrule_ev (r:Rl) (h:wT tRl r≤100000000):E 24 [.tv [] tRl r] [] (sv (ruleT r)) []:=by
 rw [w_rl] at h
 have he:=ruleT_eq r
 obtain ⟨n,ns,p,a,⟨⟩⟩:=r
 dsimp only at h he
 have hbig:(1000000000:Nat)≤bigN:=by decide
 refine ev_of (vc24 n ns p a _ ?_)
 generalize bigN=big at hbig ⊢
 have hsp:∀ k,(spW (ns.take k)).length≤nmW ns:=fun k=>by rw [spW_len];exact sumM_take _ _ _
 refine ⟨⟨by omega⟩,fun o z=>∃ k:Nat,z=k∧k≤ns.length∧o=n++[32,58]++spW (ns.take k),fun _ z=>((ns.length:Int)-z).toNat,⟨0,rfl,by omega,by simp [spW]⟩,?_⟩
 rintro o z ⟨k,rfl,hk,rfl⟩
 have hnl:ns.length≤nmW ns:=sumM_len (fun x:List Int=>x.length+1) _ fun _ _=>by omega
 have hs1:=hsp k
 refine ⟨fun h1=>?_,fun h1=>?_⟩
 ·(simp only [decide_eq_true_eq,decide_eq_false_iff_not,Bool.not_eq_true',Bool.not_eq_false'] at h1)
  have hk':k<ns.length:=by omega
  have e:=spW_snoc hk'
  have hs2:=hsp (k+1)
  rw [e] at hs2
  simp only [List.length_append,List.length_singleton] at hs2
  rw [Int.toNat_natCast]
  refine ⟨⟨by simp only [List.length_append,List.length_cons,List.length_nil];omega⟩,⟨by omega⟩,⟨by simp only [List.length_append,List.length_cons,List.length_nil];omega⟩,⟨by omega⟩,⟨k+1,by omega,by omega,?_⟩,⟨by ((try dsimp only);omega)⟩⟩
  rw [e];simp only [List.append_assoc]
 ·(simp only [decide_eq_true_eq,decide_eq_false_iff_not,Bool.not_eq_true',Bool.not_eq_false'] at h1)
  rw [show ns.take k=ns from List.take_of_length_le (by omega)] at hs1 ⊢
  generalize spW ns=S at hs1 he ⊢
  rw [he]
  refine ⟨fun h2=>⟨⟨?_⟩,⟨?_⟩,fun h3=>⟨⟨?_⟩,⟨?_⟩,⟨?_⟩,⟨?_⟩,tvS ?_,rfl⟩,fun h3=>⟨⟨?_⟩,tvS ?_,rfl⟩⟩,fun h2=>⟨fun h3=>⟨⟨?_⟩,⟨?_⟩,⟨?_⟩,⟨?_⟩,tvS ?_,rfl⟩,fun h3=>⟨⟨?_⟩,tvS ?_,rfl⟩⟩⟩
  all_goals first | (simp only [List.length_append,List.length_cons,List.length_nil];omega) | skip
  all_goals (simp only [Bool.not_eq_true',Bool.not_eq_false',decide_eq_true_eq,decide_eq_false_iff_not] at h2 h3)
  ·rw [if_neg h2,if_neg h3];simp only [List.append_assoc]
  ·rw [if_neg h2,if_pos h3];simp only [List.append_assoc,List.nil_append]
  ·rw [if_pos h2,if_neg h3];simp only [List.append_assoc,List.nil_append]
  ·rw [if_pos h2,if_pos h3];simp only [List.append_assoc,List.nil_append]
abbrev ByN (l:List qT0):Prop:=∀ s∈l,∀ c∈s,0≤c∧c<256
theorem ronce_ev (l:List qT0) (hl:l.length≤100000000) (hb:ByN l):E 50 [.tv [] qt10 l] [] (bv (onceO l)) []:=by
 refine ev_of (vc50 l _ ?_)
 refine ⟨fun z=>∃ k:Nat,z=k∧k≤l.length∧onceO (l.take k)=true,fun z=>((l.length:Int)-z).toNat,⟨0,rfl,by omega,rfl⟩,?_⟩
 rintro z ⟨k,rfl,hk,hv⟩
 unfold onceO at hv
 simp only [Bool.and_eq_true,decide_eq_true_eq] at hv
 refine ⟨fun h=>?_,fun h=>?_⟩
 ·(simp only [decide_eq_true_eq,decide_eq_false_iff_not,Bool.not_eq_true',Bool.not_eq_false'] at h)
  have hk':k<l.length:=by omega
  rw [Int.toNat_natCast]
  refine ⟨⟨by omega⟩,_,⟨rnameO_ev _ (hb _ (getD_mem' _ l _ hk'))⟩,fun h2=>⟨tvB ?_,rfl⟩,fun h2=>?_⟩
  ·(simp only [decide_eq_true_eq,decide_eq_false_iff_not,Bool.not_eq_true',Bool.not_eq_false'] at h2)
   rw [onceO,all_take_false hk' h2];rfl
  (simp only [decide_eq_true_eq,decide_eq_false_iff_not,Bool.not_eq_true',Bool.not_eq_false'] at h2)
  refine ⟨fun z=>∃ j:Nat,z=j∧j≤k∧l.getD k [] ∉ l.take j,fun z=>((k:Int)-z).toNat,⟨0,rfl,by omega,by simp⟩,?_⟩
  rintro z ⟨j,rfl,hj,hn⟩
  refine ⟨fun h3=>?_,fun h3=>?_⟩
  ·(simp only [decide_eq_true_eq,decide_eq_false_iff_not,Bool.not_eq_true',Bool.not_eq_false'] at h3)
   have hj':j<l.length:=by omega
   rw [Int.toNat_natCast]
   refine ⟨⟨by omega⟩,⟨by omega⟩,fun h4=>⟨tvB ?_,rfl⟩,fun h4=>⟨⟨by omega⟩,⟨j+1,by omega,by omega,?_⟩,⟨by ((try dsimp only);omega)⟩⟩⟩
   ·(simp only [decide_eq_true_eq,decide_eq_false_iff_not,Bool.not_eq_true',Bool.not_eq_false'] at h4)
    rw [onceO,decide_eq_false (fun q=>?_),Bool.and_false]
    have q2:(l.take (k+1)).Nodup:=List.Nodup.sublist (List.take_sublist _ _) q
    rw [take_snoc ([]:List Int) hk',nodup_snoc] at q2
    refine q2.2 ?_
    rw [← h4,show l.getD j []=(l.take k).getD j [] by
     rw [List.getD_eq_getElem?_getD,List.getD_eq_getElem?_getD,List.getElem?_take,if_pos (by omega)]]
    exact getD_mem' _ _ _ (by rw [List.length_take];omega)
   ·(simp only [decide_eq_true_eq,decide_eq_false_iff_not,Bool.not_eq_true',Bool.not_eq_false'] at h4)
    rw [take_snoc ([]:List Int) hj',List.mem_append,List.mem_singleton]
    rintro (q | q)
    ·exact hn q
    ·exact h4 q.symm
  ·(simp only [decide_eq_true_eq,decide_eq_false_iff_not,Bool.not_eq_true',Bool.not_eq_false'] at h3)
   have:j=k:=by omega
   subst this
   refine ⟨⟨by omega⟩,⟨j+1,by omega,by omega,?_⟩,⟨by ((try dsimp only);omega)⟩⟩
   rw [onceO,take_snoc ([]:List Int) hk',all_snoc,hv.1,h2,decide_eq_true (nodup_snoc.2 ⟨hv.2,hn⟩)];rfl
 ·(simp only [decide_eq_true_eq,decide_eq_false_iff_not,Bool.not_eq_true',Bool.not_eq_false'] at h)
  rw [List.take_of_length_le (by omega)] at hv
  refine ⟨tvB ?_,rfl⟩
  rw [onceO,hv.1,decide_eq_true hv.2];rfl
structure ByG (g:Gr):Prop where
 tk:∀ t∈g.1,∀ c∈t.1,0≤c∧c<256
 lv:∀ x∈g.2.2.1,ByN x.2.1
 st:∀ c∈g.2.2.2.1,0≤c∧c<256
 rl:∀ r∈g.2.2.2.2.1,(∀ c∈r.1,0≤c∧c<256)∧ByN r.2.1∧(∀ c∈r.2.2.1,0≤c∧c<256)∧ActB r
end Go.Am.R
