/-
  A part of the proof of a law: see the text that states it.
-/
import Derived.Test.YtggaihkjnomflaaGreatDoorZC
import Derived.Test.YtggaihkjnomflaaGreatDoorAm4
import Derived.Test.YtggaihkjnomflaaGreatDoorVcN
set_option linter.all false
namespace Go.Am.N
open Go Go.Am.Pr Go.Am.N.L
set_option maxRecDepth 100000
def sumM {α:Type} (f:α→Nat) (l:List α):Nat:=(l.map f).sum
theorem sumM_cons {α:Type} (f:α→Nat) (a:α) (l:List α):sumM f (a::l)=f a+sumM f l:=by simp [sumM]
theorem sumM_app {α:Type} (f:α→Nat) (a b:List α):sumM f (a++b)=sumM f a+sumM f b:=by simp [sumM]
theorem sumM_snoc {α:Type} (f:α→Nat) (d:α) {l:List α} {k:Nat} (hk:k<l.length):sumM f (l.take (k+1))=sumM f (l.take k)+f (l.getD k d):=by
 rw [take_snoc d hk,sumM_app];simp [sumM]
theorem sumM_take {α:Type} (f:α→Nat) (l:List α) (k:Nat):sumM f (l.take k)≤sumM f l:=by
 have:sumM f l=sumM f (l.take k)+sumM f (l.drop k):=by rw [← sumM_app,List.take_append_drop]
 omega
theorem sumM_mem {α:Type} (f:α→Nat) {l:List α} {x:α} (h:x∈l):f x≤sumM f l:=by
 obtain ⟨a,b,rfl⟩:=List.append_of_mem h
 rw [sumM_app,sumM_cons];omega
theorem sumM_le {α:Type} (f g:α→Nat):∀ (l:List α),(∀ x∈l,f x≤g x)→sumM f l≤sumM g l
 | [],_=>Nat.le_refl _
 | a::l,h=>by
  have h1:=h a (List.mem_cons_self ..)
  have h2:=sumM_le f g l fun x hx=>h x (List.mem_cons_of_mem _ hx)
  rw [sumM_cons,sumM_cons];omega
theorem sumM_len {α:Type} (f:α→Nat):∀ (l:List α),(∀ x∈l,1≤f x)→l.length≤sumM f l
 | [],_=>Nat.zero_le _
 | a::l,h=>by
  have h1:=h a (List.mem_cons_self ..)
  have h2:=sumM_len f l fun x hx=>h x (List.mem_cons_of_mem _ hx)
  rw [sumM_cons,List.length_cons];omega
abbrev nmW (l:List qT0):Nat:=sumM (fun x=>x.length+1) l
theorem w_tk (t:Tk):wT tTk t=t.1.length+1+((t.2.1.1.length+1+(t.2.1.2.1.length+1+(0+0)))+0):=rfl
theorem w_sk (p:Pat):wT tPat p=p.1.length+1+(p.2.1.length+1+(0+0)):=rfl
theorem w_lv (x:Lv):wT tLv x=0+(nmW x.2.1+1+0):=rfl
theorem w_rl (r:Rl):wT tRl r=r.1.length+1+(nmW r.2.1+1+(r.2.2.1.length+1+(r.2.2.2.1.length+1+0))):=rfl
theorem w_gr (g:Gr):wT tGr g=sumM (wT tTk) g.1+1+(sumM (wT tPat) g.2.1+1+(sumM (wT tLv) g.2.2.1+1+(g.2.2.2.1.length+1+(sumM (wT tRl) g.2.2.2.2.1+1+0)))):=rfl
def fTk (t:Tk):Nat:=t.1.length+t.2.1.1.length+t.2.1.2.1.length
def fSk (p:Pat):Nat:=p.1.length+p.2.1.length
def fLv (x:Lv):Nat:=nmW x.2.1
def fRl (r:Rl):Nat:=r.1.length+r.2.2.1.length+r.2.2.2.1.length+nmW r.2.1
def cntN (g:Gr):Nat:=g.1.length+g.2.1.length+g.2.2.1.length+g.2.2.2.2.1.length
def fewN (g:Gr):Nat:=cntN g+sumM fTk g.1+sumM fSk g.2.1+sumM fLv g.2.2.1+sumM fRl g.2.2.2.2.1
def fewB (g:Gr):Bool:=!decide (60<cntN g)&&decide (fewN g≤1500)
structure Bd (g:Gr) (W:Nat):Prop where
 tk:g.1.length≤W
 tks:sumM fTk g.1≤W
 sk:g.2.1.length≤W
 sks:sumM fSk g.2.1≤W
 lv:g.2.2.1.length≤W
 lvs:sumM fLv g.2.2.1≤W
 rl:g.2.2.2.2.1.length≤W
 rls:sumM fRl g.2.2.2.2.1≤W
theorem Bd.of {g:Gr} {W:Nat} (h:wT tGr g≤W):Bd g W:=by
 rw [w_gr] at h
 have a1:=sumM_len (wT tTk) g.1 fun t _=>by rw [w_tk];omega
 have a2:=sumM_len (wT tPat) g.2.1 fun t _=>by rw [w_sk];omega
 have a3:=sumM_len (wT tLv) g.2.2.1 fun t _=>by rw [w_lv];omega
 have a4:=sumM_len (wT tRl) g.2.2.2.2.1 fun t _=>by rw [w_rl];omega
 have b1:=sumM_le fTk (wT tTk) g.1 fun t _=>by rw [w_tk,fTk];omega
 have b2:=sumM_le fSk (wT tPat) g.2.1 fun t _=>by rw [w_sk,fSk];omega
 have b3:=sumM_le fLv (wT tLv) g.2.2.1 fun t _=>by rw [w_lv,fLv];omega
 have b4:=sumM_le fRl (wT tRl) g.2.2.2.2.1 fun t _=>by rw [w_rl,fRl];omega
 exact ⟨by omega,by omega,by omega,by omega,by omega,by omega,by omega,by omega⟩
theorem few_ev (g:Gr) (hg:wT tGr g≤1048576):E 6 [.tv [] tGr g] [] (bv (fewB g)) []:=by
 have bd:=Bd.of hg
 obtain ⟨tk,sk,lv,st,rl,⟨⟩⟩:=g
 have f1:=bd.tk
 have f2:=bd.tks
 have f3:=bd.sk
 have f4:=bd.sks
 have f5:=bd.lv
 have f6:=bd.lvs
 have f7:=bd.rl
 have f8:=bd.rls
 dsimp only at f1 f2 f3 f4 f5 f6 f7 f8
 clear hg bd
 have hfb:fewB (tk,(sk,(lv,(st,(rl,())))))=(!decide (60<tk.length+sk.length+lv.length+rl.length)&&decide (tk.length+sk.length+lv.length+rl.length+sumM fTk tk+sumM fSk sk+sumM fLv lv+sumM fRl rl≤1500)):=rfl
 rw [hfb]
 refine ev_of (vc6 tk sk lv st rl _ ⟨⟨by omega⟩,⟨by omega⟩,⟨by omega⟩,fun h=>?_,fun h=>?_⟩)
 ·(simp only [decide_eq_true_eq,decide_eq_false_iff_not,Bool.not_eq_true',Bool.not_eq_false'] at h)
  refine ⟨tvB ?_,rfl⟩
  rw [decide_eq_true (show 60<tk.length+sk.length+lv.length+rl.length by omega)];rfl
 (simp only [decide_eq_true_eq,decide_eq_false_iff_not,Bool.not_eq_true',Bool.not_eq_false'] at h)
 rw [decide_eq_false (show ¬ 60<tk.length+sk.length+lv.length+rl.length by omega),Bool.not_false,Bool.true_and]
 generalize hC:tk.length+sk.length+lv.length+rl.length=C
 have hC':(tk.length:Int)+(sk.length:Int)+(lv.length:Int)+(rl.length:Int)=(C:Int):=by omega
 have hCb:C≤60:=by omega
 rw [hC']
 clear hC hC' h hfb
 refine ⟨fun n z=>∃ k:Nat,z=k∧k≤tk.length∧n=((C+sumM fTk (tk.take k):Nat):Int),fun _ z=>((tk.length:Int)-z).toNat,⟨0,rfl,by omega,rfl⟩,?_⟩
 rintro n z ⟨k,rfl,hk,rfl⟩
 refine ⟨fun h=>?_,fun h=>?_⟩
 ·(simp only [decide_eq_true_eq,decide_eq_false_iff_not,Bool.not_eq_true',Bool.not_eq_false'] at h)
  have hk':k<tk.length:=by omega
  have e:=sumM_snoc fTk (([]:List Int),(([],([],(false,()))),())) hk'
  have l1:=sumM_take fTk tk (k+1)
  rw [e] at l1
  rw [Int.toNat_natCast]
  have fe:fTk (tk.getD k (([]:List Int),(([],([],(false,()))),())))=(tk.getD k (([]:List Int),(([],([],(false,()))),()))).1.length+(tk.getD k (([]:List Int),(([],([],(false,()))),()))).2.1.1.length+(tk.getD k (([]:List Int),(([],([],(false,()))),()))).2.1.2.1.length:=rfl
  refine ⟨⟨by omega⟩,⟨by omega⟩,⟨by omega⟩,⟨by omega⟩,⟨by omega⟩,⟨by omega⟩,⟨by omega⟩,⟨k+1,by omega,by omega,?_⟩,⟨by ((try dsimp only);omega)⟩⟩
  rw [e];omega
 (simp only [decide_eq_true_eq,decide_eq_false_iff_not,Bool.not_eq_true',Bool.not_eq_false'] at h)
 rw [show tk.take k=tk from List.take_of_length_le (by omega)]
 clear h hk k
 generalize hC1:C+sumM fTk tk=C1
 refine ⟨fun n z=>∃ k:Nat,z=k∧k≤sk.length∧n=((C1+sumM fSk (sk.take k):Nat):Int),fun _ z=>((sk.length:Int)-z).toNat,⟨0,rfl,by omega,rfl⟩,?_⟩
 rintro n z ⟨k,rfl,hk,rfl⟩
 refine ⟨fun h=>?_,fun h=>?_⟩
 ·(simp only [decide_eq_true_eq,decide_eq_false_iff_not,Bool.not_eq_true',Bool.not_eq_false'] at h)
  have hk':k<sk.length:=by omega
  have e:=sumM_snoc fSk (([]:List Int),(([]:List Int),(false,()))) hk'
  have l1:=sumM_take fSk sk (k+1)
  rw [e] at l1
  rw [Int.toNat_natCast]
  have fe:fSk (sk.getD k (([]:List Int),(([]:List Int),(false,()))))=(sk.getD k (([]:List Int),(([]:List Int),(false,())))).1.length+(sk.getD k (([]:List Int),(([]:List Int),(false,())))).2.1.length:=rfl
  refine ⟨⟨by omega⟩,⟨by omega⟩,⟨by omega⟩,⟨by omega⟩,⟨by omega⟩,⟨k+1,by omega,by omega,?_⟩,⟨by ((try dsimp only);omega)⟩⟩
  rw [e];omega
 (simp only [decide_eq_true_eq,decide_eq_false_iff_not,Bool.not_eq_true',Bool.not_eq_false'] at h)
 rw [show sk.take k=sk from List.take_of_length_le (by omega)]
 clear h hk k
 generalize hC2:C1+sumM fSk sk=C2
 refine ⟨fun n z=>∃ k:Nat,z=k∧k≤lv.length∧n=((C2+sumM fLv (lv.take k):Nat):Int),fun _ z=>((lv.length:Int)-z).toNat,⟨0,rfl,by omega,rfl⟩,?_⟩
 rintro n z ⟨k,rfl,hk,rfl⟩
 refine ⟨fun h=>?_,fun h=>?_⟩
 ·(simp only [decide_eq_true_eq,decide_eq_false_iff_not,Bool.not_eq_true',Bool.not_eq_false'] at h)
  have hk':k<lv.length:=by omega
  have e:=sumM_snoc fLv ((0:Int),(([]:List qT0),())) hk'
  have l1:=sumM_take fLv lv (k+1)
  rw [e] at l1
  have fe:fLv (lv.getD k ((0:Int),(([]:List qT0),())))=nmW (lv.getD k ((0:Int),(([]:List qT0),()))).2.1:=rfl
  rw [Int.toNat_natCast]
  refine ⟨fun n z=>∃ j:Nat,z=j∧j≤(lv.getD k ((0:Int),(([]:List qT0),()))).2.1.length∧n=((C2+sumM fLv (lv.take k)+nmW ((lv.getD k ((0:Int),(([]:List qT0),()))).2.1.take j):Nat):Int),fun _ z=>(((lv.getD k ((0:Int),(([]:List qT0),()))).2.1.length:Int)-z).toNat,⟨0,rfl,by omega,rfl⟩,?_⟩
  rintro n z ⟨j,rfl,hj,rfl⟩
  refine ⟨⟨by omega⟩,fun h1=>?_,fun h1=>?_⟩
  ·(simp only [decide_eq_true_eq,decide_eq_false_iff_not,Bool.not_eq_true',Bool.not_eq_false'] at h1)
   have hj':j<(lv.getD k ((0:Int),(([]:List qT0),()))).2.1.length:=by omega
   have e1:nmW ((lv.getD k ((0:Int),(([]:List qT0),()))).2.1.take (j+1))=nmW ((lv.getD k ((0:Int),(([]:List qT0),()))).2.1.take j)+(((lv.getD k ((0:Int),(([]:List qT0),()))).2.1.getD j []).length+1):=sumM_snoc (fun x:List Int=>x.length+1) ([]:List Int) hj'
   have l2:nmW ((lv.getD k ((0:Int),(([]:List qT0),()))).2.1.take (j+1))≤nmW (lv.getD k ((0:Int),(([]:List qT0),()))).2.1:=sumM_take (fun x:List Int=>x.length+1) (lv.getD k ((0:Int),(([]:List qT0),()))).2.1 (j+1)
   rw [e1] at l2
   have l3:(lv.getD k ((0:Int),(([]:List qT0),()))).2.1.length≤nmW (lv.getD k ((0:Int),(([]:List qT0),()))).2.1:=sumM_len (fun x:List Int=>x.length+1) _ fun _ _=>by omega
   rw [Int.toNat_natCast]
   refine ⟨⟨by omega⟩,⟨by omega⟩,⟨by omega⟩,⟨by omega⟩,⟨by omega⟩,⟨j+1,by omega,by omega,?_⟩,⟨by ((try dsimp only);omega)⟩⟩
   rw [e1];omega
  ·(simp only [decide_eq_true_eq,decide_eq_false_iff_not,Bool.not_eq_true',Bool.not_eq_false'] at h1)
   rw [show (lv.getD k ((0:Int),(([]:List qT0),()))).2.1.take j=(lv.getD k ((0:Int),(([]:List qT0),()))).2.1 from List.take_of_length_le (by omega)]
   refine ⟨⟨by omega⟩,⟨k+1,by omega,by omega,?_⟩,⟨by ((try dsimp only);omega)⟩⟩
   rw [e];omega
 (simp only [decide_eq_true_eq,decide_eq_false_iff_not,Bool.not_eq_true',Bool.not_eq_false'] at h)
 rw [show lv.take k=lv from List.take_of_length_le (by omega)]
 clear h hk k
 generalize hC3:C2+sumM fLv lv=C3
 refine ⟨fun n z=>∃ k:Nat,z=k∧k≤rl.length∧n=((C3+sumM fRl (rl.take k):Nat):Int),fun _ z=>((rl.length:Int)-z).toNat,⟨0,rfl,by omega,rfl⟩,?_⟩
 rintro n z ⟨k,rfl,hk,rfl⟩
 refine ⟨fun h=>?_,fun h=>?_⟩
 ·(simp only [decide_eq_true_eq,decide_eq_false_iff_not,Bool.not_eq_true',Bool.not_eq_false'] at h)
  have hk':k<rl.length:=by omega
  have e:=sumM_snoc fRl (([]:List Int),(([]:List qT0),(([]:List Int),(([]:List Int),())))) hk'
  have l1:=sumM_take fRl rl (k+1)
  rw [e] at l1
  rw [Int.toNat_natCast]
  generalize hr:rl.getD k (([]:List Int),(([]:List qT0),(([]:List Int),(([]:List Int),()))))=r at e l1 ⊢
  have fe:fRl r=r.1.length+r.2.2.1.length+r.2.2.2.1.length+nmW r.2.1:=rfl
  refine ⟨⟨by omega⟩,⟨by omega⟩,⟨by omega⟩,⟨by omega⟩,⟨by omega⟩,⟨by omega⟩,?_⟩
  refine ⟨fun n z=>∃ j:Nat,z=j∧j≤r.2.1.length∧n=((C3+sumM fRl (rl.take k)+(r.1.length+r.2.2.1.length+r.2.2.2.1.length)+nmW (r.2.1.take j):Nat):Int),fun _ z=>((r.2.1.length:Int)-z).toNat,⟨0,rfl,by omega,?_⟩,?_⟩
  ·show _=((C3+sumM fRl (rl.take k)+(r.1.length+r.2.2.1.length+r.2.2.2.1.length)+0:Nat):Int);omega
  rintro n z ⟨j,rfl,hj,rfl⟩
  refine ⟨⟨by omega⟩,fun h1=>?_,fun h1=>?_⟩
  ·(simp only [decide_eq_true_eq,decide_eq_false_iff_not,Bool.not_eq_true',Bool.not_eq_false'] at h1)
   have hj':j<r.2.1.length:=by omega
   have e1:nmW (r.2.1.take (j+1))=nmW (r.2.1.take j)+((r.2.1.getD j []).length+1):=sumM_snoc (fun x:List Int=>x.length+1) ([]:List Int) hj'
   have l2:nmW (r.2.1.take (j+1))≤nmW r.2.1:=sumM_take (fun x:List Int=>x.length+1) r.2.1 (j+1)
   rw [e1] at l2
   have l3:r.2.1.length≤nmW r.2.1:=sumM_len (fun x:List Int=>x.length+1) _ fun _ _=>by omega
   rw [Int.toNat_natCast]
   refine ⟨⟨by omega⟩,⟨by omega⟩,⟨by omega⟩,⟨by omega⟩,⟨by omega⟩,⟨j+1,by omega,by omega,?_⟩,⟨by ((try dsimp only);omega)⟩⟩
   rw [e1];omega
  ·(simp only [decide_eq_true_eq,decide_eq_false_iff_not,Bool.not_eq_true',Bool.not_eq_false'] at h1)
   rw [show r.2.1.take j=r.2.1 from List.take_of_length_le (by omega)]
   refine ⟨⟨by omega⟩,⟨k+1,by omega,by omega,?_⟩,⟨by ((try dsimp only);omega)⟩⟩
   rw [e];omega
 (simp only [decide_eq_true_eq,decide_eq_false_iff_not,Bool.not_eq_true',Bool.not_eq_false'] at h)
 rw [show rl.take k=rl from List.take_of_length_le (by omega)]
 refine ⟨tvB (decide_eq_decide.2 ?_),rfl⟩
 omega
theorem few_of {g:Gr} (h:fewB g=true) (ha:∀ r∈g.2.2.2.2.1,ActB r):Few g:=by
  simp only [fewB,Bool.and_eq_true,Bool.not_eq_true',decide_eq_true_eq,decide_eq_false_iff_not] at h
  obtain ⟨h1,h2⟩:=h
  unfold fewN at h2
  unfold cntN at h1 h2
  refine ⟨by omega,fun t ht=>?_,by omega,fun p hp=>?_,by omega,?_,by omega,fun r hr=>?_,ha⟩
  · have h3:=sumM_mem fTk ht
    have fe:fTk t=t.1.length+t.2.1.1.length+t.2.1.2.1.length:=rfl
    omega
  · have h3:=sumM_mem fSk hp
    have fe:fSk p=p.1.length+p.2.1.length:=rfl
    omega
  · have key : ∀ l : List Lv, (l.flatMap (·.2.1)).length ≤ sumM fLv l := by
      intro l
      induction l with
      | nil=>exact Nat.zero_le _
      | cons x l ih =>
        have:x.2.1.length≤nmW x.2.1:=sumM_len (fun x:List Int=>x.length+1) x.2.1 fun _ _=>by omega
        rw [List.flatMap_cons,List.length_append,sumM_cons]
        have fe:fLv x=nmW x.2.1:=rfl
        omega
    have:=key g.2.2.1
    omega
  · have h3:=sumM_mem fRl hr
    have h4:r.2.1.length≤nmW r.2.1:=sumM_len (fun x:List Int=>x.length+1) r.2.1 fun _ _=>by omega
    have fe:fRl r=r.1.length+r.2.2.1.length+r.2.2.2.1.length+nmW r.2.1:=rfl
    refine ⟨by omega,by omega,fun x hx=>?_,by omega,by omega⟩
    have:x.length+1≤nmW r.2.1:=sumM_mem (fun x:List Int=>x.length+1) hx
    omega
end Go.Am.N
