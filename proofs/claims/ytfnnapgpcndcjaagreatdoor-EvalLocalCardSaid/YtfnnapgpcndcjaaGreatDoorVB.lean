/-
  A part of the proof of a law: see the text that states it.
-/
import Derived.Test.YtfnnapgpcndcjaaGreatDoorVA
import Derived.Test.YtfnnapgpcndcjaaGreatDoorVc5
import Derived.Test.YtfnnapgpcndcjaaGreatDoorVcA
import Derived.Test.YtfnnapgpcndcjaaGreatDoorVcB
import Derived.Test.YtfnnapgpcndcjaaGreatDoorVcC
set_option linter.all false
namespace Go.Am.Z.V
open Go
set_option maxRecDepth 100000
abbrev Val:=Int×Int×Unit
abbrev tV:Ty:=.pair (.int .i64) (.pair (.int .i64) .unit)
abbrev V0:Val:=(0,0,())
def w64 (n:Int):Int:=IntKind.wrap .i64 n
theorem num_ev (n:Int):E 58 [.tv [] (.int .i64) n] [] (.tv [] tV (1,n,())) []:=ev_of (vc58 n _ ⟨rfl,rfl⟩)
theorem bad_ev (n:Int):E 56 [.tv [] (.int .i64) n] [] (.tv [] tV (3,n,())) []:=ev_of (vc56 n _ ⟨rfl,rfl⟩)
def divK (a b:Int):Val:=if b=0 then (3,32,()) else (1,w64 (Int.tdiv a b),())
def modK (a b:Int):Val:=if b=0 then (3,32,()) else (1,Int.tmod a b,())
def signK (k a b:Int):Val:=if k=5 then (1,w64 (a+b),()) else if k=6 then (1,w64 (a-b),()) else if k=7 then (1,w64 (a * b),()) else if k=8 then divK a b else modK a b
theorem s38 (a b:Int):E 84 [.tv [] (.int .i64) a,.tv [] (.int .i64) b] [] (.tv [] tV (signK 5 a b)) []:=ev_of (vc84 a b _ ⟨_,_,⟨num_ev _⟩,rfl,rfl⟩)
theorem s39 (a b:Int):E 85 [.tv [] (.int .i64) a,.tv [] (.int .i64) b] [] (.tv [] tV (signK 6 a b)) []:=ev_of (vc85 a b _ ⟨_,_,⟨num_ev _⟩,rfl,rfl⟩)
theorem s40 (a b:Int):E 86 [.tv [] (.int .i64) a,.tv [] (.int .i64) b] [] (.tv [] tV (signK 7 a b)) []:=ev_of (vc86 a b _ ⟨_,_,⟨num_ev _⟩,rfl,rfl⟩)
theorem s41 (a b:Int):E 87 [.tv [] (.int .i64) a,.tv [] (.int .i64) b] [] (.tv [] tV (signK 8 a b)) []:=by
 have e:signK 8 a b=divK a b:=rfl
 rw [e];unfold divK
 refine ev_of (vc87 a b _ ⟨fun h=>⟨_,_,⟨bad_ev _⟩,?_⟩,fun h=>⟨?_,_,_,⟨num_ev _⟩,?_⟩⟩)
 ·(simp only [dq1,dq2,dq3,dq4] at h);rw [if_pos h];exact ⟨rfl,rfl⟩
 ·(simp only [dq1,dq2,dq3,dq4] at h);exact ⟨h⟩
 ·(simp only [dq1,dq2,dq3,dq4] at h);rw [if_neg h];exact ⟨rfl,rfl⟩
theorem s42 (a b:Int):E 88 [.tv [] (.int .i64) a,.tv [] (.int .i64) b] [] (.tv [] tV (signK 9 a b)) []:=by
 have e:signK 9 a b=modK a b:=rfl
 rw [e];unfold modK
 refine ev_of (vc88 a b _ ⟨fun h=>⟨_,_,⟨bad_ev _⟩,?_⟩,fun h=>⟨?_,⟨fun h=>by cases h.1⟩,_,_,⟨num_ev _⟩,?_⟩⟩)
 ·(simp only [dq1,dq2,dq3,dq4] at h);rw [if_pos h];exact ⟨rfl,rfl⟩
 ·(simp only [dq1,dq2,dq3,dq4] at h);exact ⟨h⟩
 ·(simp only [dq1,dq2,dq3,dq4] at h);rw [if_neg h];exact ⟨rfl,rfl⟩
def wrongL:List Val→Option Val
 | []=>none
 | x::l=>if x.1=3 then some x else wrongL l
def badL:List Val→Bool
 | []=>false
 | x::l=>if x.1≠1 then true else badL l
def wrongP (l:List Val):Val×Bool:=match wrongL l with
 | some x=>(x,true)
 | none=>if badL l then ((3,33,()),true) else (V0,false)
theorem wrong_ev (γ lo len:Nat) (l:List Val) (hl:lo+len≤l.length) (hb:len≤1000):E 59 [.tv [] (.sref tV) (some ((0,0),γ,lo,len))] [((0,0),⟨⟨.arr (Nat.succ γ) l.length tV,l⟩,[]⟩)]
  (.tup [.tv [] tV (wrongP ((l.drop lo).take len)).1,.tv [] .bool (wrongP ((l.drop lo).take len)).2]) [((0,0),⟨⟨.arr (Nat.succ γ) l.length tV,l⟩,[]⟩)]:=by
 refine ev_of (vc59 γ l.length lo len l _ ?_)
 generalize hm:(l.drop lo).take len=m
 have hml:m.length=len:=by rw [← hm,List.length_take,List.length_drop];omega
 have hget:∀ k,k<len→l.getD (lo+k) V0=m.getD k V0:=by
  intro k hk
  rw [← hm]
  simp only [List.getD_eq_getElem?_getD]
  rw [List.getElem?_take_of_lt hk,List.getElem?_drop]
 refine ⟨fun i a b g z=>∃ k:Nat,i=k∧k≤len∧g=(γ:Int)∧z=l∧wrongL (m.drop k)=wrongL m,fun i _ _ _ _=>(len-i).toNat,⟨rfl⟩,⟨0,rfl,by omega,rfl,rfl,rfl⟩,?_⟩
 rintro _ a b _ z ⟨k,rfl,hk,rfl,rfl,hv⟩
 refine ⟨fun h=>?_,fun h=>?_⟩
 ·(simp only [dq1,dq2,dq3,dq4] at h)
  have hk':k<len:=by omega
  have hd:=drop_cons V0 (show k<m.length by omega)
  rw [hd,wrongL] at hv
  have hx:=hget k hk'
  rw [← Int.toNat_natCast k] at hx
  generalize z.getD (lo+Int.toNat (k:Int)) ((0:Int),(0:Int),())=y at hx ⊢
  rw [Int.toNat_natCast] at hx
  subst hx
  refine ⟨⟨by omega⟩,⟨by omega⟩,⟨by omega⟩,fun h2=>?_,fun h2=>⟨⟨by omega⟩,⟨by trivial⟩,⟨k+1,by omega,by omega,by simp,rfl,?_⟩,⟨by ((try dsimp only);omega)⟩⟩⟩
  ·(simp only [dq1,dq2,dq3,dq4] at h2)
   rw [if_pos h2] at hv
   unfold wrongP
   rw [← hv]
   exact ⟨rfl,by trivial⟩
  ·(simp only [dq1,dq2,dq3,dq4] at h2)
   rw [if_neg h2] at hv;exact hv
 ·(simp only [dq1,dq2,dq3,dq4] at h)
  have:k=len:=by omega
  subst this
  rw [List.drop_eq_nil_of_le (by omega)] at hv
  refine ⟨fun i a b g y=>∃ j:Nat,i=j∧j≤k∧g=(γ:Int)∧y=z∧badL (m.drop j)=badL m,fun i _ _ _ _=>(k-i).toNat,⟨by trivial⟩,⟨0,rfl,by omega,by simp,rfl,rfl⟩,?_⟩
  rintro _ a b _ z2 ⟨j,rfl,hj,rfl,rfl,hw⟩
  refine ⟨fun h=>?_,fun h=>?_⟩
  ·(simp only [dq1,dq2,dq3,dq4] at h)
   have hj':j<k:=by omega
   have hd:=drop_cons V0 (show j<m.length by omega)
   rw [hd,badL] at hw
   have hx:=hget j hj'
   rw [← Int.toNat_natCast j] at hx
   generalize z2.getD (lo+Int.toNat (j:Int)) ((0:Int),(0:Int),())=y at hx ⊢
   rw [Int.toNat_natCast] at hx
   subst hx
   refine ⟨⟨by omega⟩,⟨by omega⟩,⟨by omega⟩,fun h2=>⟨_,_,⟨bad_ev _⟩,?_⟩,fun h2=>⟨⟨by omega⟩,⟨by trivial⟩,⟨j+1,by omega,by omega,by simp,rfl,?_⟩,⟨by ((try dsimp only);omega)⟩⟩⟩
   ·(simp only [dq1,dq2,dq3,dq4] at h2)
    rw [if_pos h2] at hw
    unfold wrongP
    rw [← hv,← hw]
    exact ⟨rfl,by trivial⟩
   ·(simp only [dq1,dq2,dq3,dq4] at h2)
    rw [if_neg h2] at hw;exact hw
  ·(simp only [dq1,dq2,dq3,dq4] at h)
   have:j=k:=by omega
   subst this
   rw [List.drop_eq_nil_of_le (by omega)] at hw
   unfold wrongP
   rw [← hv,← hw]
   exact ⟨rfl,by simp⟩
def opK (vals:List Val) (nodes:List Int) (st:List Val) (x:Op2):List Val :=
 if x.1=1 then st++[(1,x.2.1,())]
 else if x.1=2 then st++[vals.getD (x.2.1-1).toNat V0]
 else if x.1=3 then st++[(2,nodes.getD (x.2.1-1).toNat 0,())]
 else if x.1=4 then (let p:=wrongP (st.drop (st.length-1));st.set (st.length-1) (if p.2 then p.1 else (1,w64 (0-(st.getD (st.length-1) V0).2.1),())))
 else (let p:=wrongP (st.drop (st.length-2));st.take (st.length-2)++[if p.2 then p.1 else signK x.1 (st.getD (st.length-2) V0).2.1 (st.getD (st.length-1) V0).2.1])
def runK (l:List Op2) (vals:List Val) (nodes:List Int):Val :=
 if (check l vals.length).2≠0∨l.length=0∨vals.length≠nodes.length then (3,31,()) else (l.foldl (opK vals nodes) []).getD 0 V0
def fnsL:List (Int×Option Nat):=[((5:Int),some 84),(6,some 85),(7,some 86),(8,some 87),(9,some 88)]
theorem signs_ev:E 57 [] [] (.tv [] (.mref (.int .i64) .fnc) (some (1,0):Option Key)) [((1,0),⟨⟨.mp (.int .i64) .fnc,fnsL⟩,[]⟩)]:=ev_of (vc57 _ ⟨rfl,rfl⟩)
theorem run_ev (l:List Op2) (vals:List Val) (nodes:List Int) (hl:l.length≤1000) (hv:vals.length≤1000):E 27 [.tv [] (.slice tOp) l,.tv [] (.slice tV) vals,.tv [] qt7 nodes] [] (.tv [] tV (runK l vals nodes)) []:=by
 refine ev_of (vc27 l vals nodes _ ?_)
 have hbig:∀ a b:Nat,a≤2000→b≤2000→a+b≤bigN:=fun a b h1 h2=>by unfold bigN;omega
 have hbd:=checkGo_bd vals.length l 0 0
 rw [show checkGo vals.length l 0 0=check l vals.length from rfl] at hbd
 refine ⟨_,_,⟨check_ev l vals.length hl⟩,fun h=>⟨_,_,⟨bad_ev _⟩,?_⟩,fun h=>⟨fun h2=>⟨_,_,⟨bad_ev _⟩,?_⟩,fun h2=>⟨fun h3=>⟨_,_,⟨bad_ev _⟩,?_⟩,fun h3=>⟨⟨signs_ev⟩,?_⟩⟩⟩⟩
 ·(simp only [dq1,dq2,dq3,dq4] at h);unfold runK;rw [if_pos (.inl h)];exact ⟨rfl,rfl⟩
 ·(simp only [dq1,dq2,dq3,dq4] at h2);unfold runK;rw [if_pos (.inr (.inl (by omega)))];exact ⟨rfl,rfl⟩
 ·(simp only [dq1,dq2,dq3,dq4] at h3);unfold runK;rw [if_pos (.inr (.inr (by omega)))];exact ⟨rfl,rfl⟩
 simp only [ne_eq,decide_eq_false_iff_not,Decidable.not_not] at h h2 h3
 have hrun:runK l vals nodes=(l.foldl (opK vals nodes) []).getD 0 V0:=by unfold runK;rw [if_neg (by omega)]
 rw [hrun]
 have hck:check l vals.length=(0,0):=by
  rcases hbd with hbd | ⟨j,_,_,hbd⟩
  ·exact hbd
  ·rw [hbd] at h;simp at h
 clear h hbd hrun
 refine ⟨fun N n i g z=>∃ m γ:Nat,i=m∧m≤l.length∧N=γ∧g=γ∧n=(z.length:Nat)∧z.length≤m∧checkGo vals.length (l.drop m) (z.length:Nat) m=(0,0)∧(l.drop m).foldl (opK vals nodes) z=l.foldl (opK vals nodes) [],fun _ _ i _ _=>(l.length-i).toNat,⟨rfl⟩,⟨0,0,rfl,by omega,rfl,rfl,rfl,by simp,hck,rfl⟩,?_⟩
 rintro _ _ _ _ z ⟨m,γ,rfl,hm,rfl,rfl,rfl,hz,hc,hf⟩
 refine ⟨fun h=>?_,fun h=>?_⟩
 ·(simp only [dq1,dq2,dq3,dq4] at h)
  have hm':m<l.length:=by omega
  rw [drop_consI ((0:Int),(0:Int),()) hm'] at hc hf
  simp only [List.foldl_cons] at hf
  simp only [checkGo] at hc
  generalize hx:l.getD (Int.toNat (m:Int)) ((0:Int),(0:Int),())=x at *
  have hfit:fitsK x.1 x.2.1 vals.length=true:=by
   rcases Bool.eq_false_or_eq_true (fitsK x.1 x.2.1 vals.length) with h | h
   ·exact h
   ·rw [if_pos (.inl h)] at hc;simp at hc
  have htk:takesK x.1≤(z.length:Nat):=by
   by_cases h:((z.length:Nat):Int)<takesK x.1
   ·rw [if_pos (.inr h)] at hc;simp at hc
   ·omega
  rw [if_neg (by simp [hfit];omega)] at hc
  have hit:=(fits_iff _ _ _).1 hfit
  have next:∀ (z':List Val),z'=opK vals nodes z x→((z'.length:Nat):Int)=(z.length:Nat)+(1-takesK x.1)→z'.length≤m+1∧checkGo vals.length (l.drop (m+1)) (z'.length:Nat) (m+1)=(0,0)∧(l.drop (m+1)).foldl (opK vals nodes) z'=l.foldl (opK vals nodes) []:=by
   rintro z' rfl hzl
   have hnn:=takesK_nn hit.1
   refine ⟨by omega,?_,hf⟩
   rw [hzl];exact hc
  have hnn:=takesK_nn hit.1
  have push:∀ (g b:Nat) (v:Val),g=γ→b≤z.length→opK vals nodes z x=z.take b++[v]→((b:Nat):Int)=(z.length:Nat)-takesK x.1→∃ m' γ':Nat,(m:Int)+1=m'∧m'≤l.length∧((Nat.succ g:Nat):Int)=γ'∧((Nat.succ g:Nat):Int)=γ'∧((b+List.length [v]:Nat):Int)=((z.take b++[v]).length:Nat) ∧
    (z.take b++[v]).length≤m'∧checkGo vals.length (l.drop m') ((z.take b++[v]).length:Nat) m'=(0,0)∧(l.drop m').foldl (opK vals nodes) (z.take b++[v])=l.foldl (opK vals nodes) []:=by
   intro g b v hg hb ho ht
   subst hg
   have hlen:(z.take b++[v]).length=b+1:=by simp;omega
   obtain ⟨n1,n2,n3⟩:=next _ ho.symm (by rw [hlen];omega)
   exact ⟨m+1,g+1,by omega,by omega,rfl,rfl,by rw [hlen];rfl,n1,n2,n3⟩
  have lset:∀ (g j:Nat) (v:Val),g=γ→opK vals nodes z x=z.set j v→takesK x.1=1→∃ m' γ':Nat,(m:Int)+1=m'∧m'≤l.length∧((g:Nat):Int)=γ'∧((g:Nat):Int)=γ'∧((Int.toNat ((z.length:Nat):Int):Nat):Int)=((z.set j v).length:Nat) ∧
    (z.set j v).length≤m'∧checkGo vals.length (l.drop m') ((z.set j v).length:Nat) m'=(0,0)∧(l.drop m').foldl (opK vals nodes) (z.set j v)=l.foldl (opK vals nodes) []:=by
   intro g j v hg ho ht
   subst hg
   have hlen:(z.set j v).length=z.length:=by simp
   obtain ⟨n1,n2,n3⟩:=next _ ho.symm (by rw [hlen];omega)
   exact ⟨m+1,g,by omega,by omega,rfl,rfl,by rw [hlen];simp,n1,n2,n3⟩
  have hgt:Int.toNat ((γ:Nat):Int)=γ:=Int.toNat_natCast γ
  have hzt:Int.toNat ((z.length:Nat):Int)=z.length:=Int.toNat_natCast _
  have e1:∀ v,opK vals nodes z x=z++[v]→opK vals nodes z x=z.take (Int.toNat ((z.length:Nat):Int))++[v]:=fun v h=>by rw [hzt,List.take_length];exact h
  have hap:∀ (g b:Nat) (v:Val),g=γ→b≤z.length→g=γ∧b≤z.length∧0<List.length [v]∧z.length+List.length [v]≤bigN:=fun g b v h1 h2=>⟨h1,h2,by simp,hbig _ _ (by omega) (by simp)⟩
  refine ⟨⟨by omega⟩,fun h1=>?_,fun h1=>⟨fun h2=>?_,fun h2=>⟨fun h3=>?_,fun h3=>⟨fun h4=>?_,fun h4=>?_⟩⟩⟩⟩
  ·(simp only [dq1,dq2,dq3,dq4] at h1)
   have ht:takesK x.1=0:=by rw [h1];rfl
   refine ⟨_,_,⟨num_ev _⟩,⟨hap _ _ _ rfl (by omega)⟩,⟨by omega⟩,⟨rfl,rfl,by simp⟩,push _ _ _ hgt (by omega) (e1 _ ?_) (by omega),⟨by ((try dsimp only);omega)⟩⟩
   unfold opK;rw [if_pos h1]
  ·(simp only [dq1,dq2,dq3,dq4] at h1)
   (simp only [dq1,dq2,dq3,dq4] at h2)
   have ht:takesK x.1=0:=by rw [h2];rfl
   have hn:=hit.2.2.2.2 (.inl h2)
   refine ⟨⟨by omega⟩,⟨by omega⟩,⟨hap _ _ _ rfl (by omega)⟩,⟨by omega⟩,⟨rfl,rfl,by simp⟩,push _ _ _ hgt (by omega) (e1 _ ?_) (by omega),⟨by ((try dsimp only);omega)⟩⟩
   unfold opK;rw [if_neg h1,if_pos h2]
  ·(simp only [dq1,dq2,dq3,dq4] at h1)
   (simp only [dq1,dq2,dq3,dq4] at h2)
   (simp only [dq1,dq2,dq3,dq4] at h3)
   have ht:takesK x.1=0:=by rw [h3];rfl
   have hn:=hit.2.2.2.2 (.inr h3)
   refine ⟨⟨by omega⟩,⟨by omega⟩,⟨hap _ _ _ rfl (by omega)⟩,⟨by omega⟩,⟨rfl,rfl,by simp⟩,push _ _ _ hgt (by omega) (e1 _ ?_) (by omega),⟨by ((try dsimp only);omega)⟩⟩
   unfold opK;rw [if_neg h1,if_neg h2,if_pos h3]
  ·(simp only [dq1,dq2,dq3,dq4] at h1)
   (simp only [dq1,dq2,dq3,dq4] at h2)
   (simp only [dq1,dq2,dq3,dq4] at h3)
   (simp only [dq1,dq2,dq3,dq4] at h4)
   have ht:takesK x.1=1:=by rw [h4];rfl
   have hi:0+Int.toNat ((Int.toNat ((z.length:Nat):Int):Int)-1)=z.length-1:=by omega
   have hlast:(z.drop (0+Int.toNat ((Int.toNat ((z.length:Nat):Int):Int)-1))).take (Int.toNat ((Int.toNat ((z.length:Nat):Int):Nat):Int)-Int.toNat ((Int.toNat ((z.length:Nat):Int):Int)-1))=z.drop (z.length-1):=by
    rw [hi,List.take_of_length_le (by rw [List.length_drop];omega)]
   have hw:=wrong_ev (Int.toNat ((γ:Nat):Int)) (0+Int.toNat ((Int.toNat ((z.length:Nat):Int):Int)-1)) (Int.toNat ((Int.toNat ((z.length:Nat):Int):Nat):Int)-Int.toNat ((Int.toNat ((z.length:Nat):Int):Int)-1)) z (by omega) (by omega)
   rw [hlast] at hw
   have hop:opK vals nodes z x=(let p:=wrongP (z.drop (z.length-1));z.set (z.length-1) (if p.2 then p.1 else (1,w64 (0-(z.getD (z.length-1) V0).2.1),()))):=by unfold opK;rw [if_neg h1,if_neg h2,if_neg h3,if_pos h4]
   simp only at hop
   generalize wrongP (z.drop (z.length-1))=p at hw hop
   rw [← hi] at hop
   refine ⟨⟨by omega⟩,⟨by omega⟩,_,_,_,_,_,⟨hw⟩,fun h5=>?_,fun h5=>?_⟩
   ·(simp only [dq1,dq2,dq3,dq4] at h5)
    rw [h5] at hop
    refine ⟨⟨by omega⟩,⟨by omega⟩,⟨rfl⟩,⟨by omega⟩,⟨rfl⟩,⟨by omega⟩,_,_,⟨num_ev _⟩,⟨by omega⟩,⟨by omega⟩,⟨rfl⟩,⟨by omega⟩,⟨by omega⟩,⟨rfl,rfl,by simp⟩,lset _ _ _ hgt hop ht,⟨by ((try dsimp only);omega)⟩⟩
   ·(simp only [dq1,dq2,dq3,dq4] at h5)
    rw [h5] at hop
    refine ⟨⟨by omega⟩,⟨by omega⟩,⟨rfl⟩,⟨by omega⟩,⟨by omega⟩,⟨rfl,rfl,by simp⟩,lset _ _ _ hgt hop ht,⟨by ((try dsimp only);omega)⟩⟩
  ·(simp only [dq1,dq2,dq3,dq4] at h1)
   (simp only [dq1,dq2,dq3,dq4] at h2)
   (simp only [dq1,dq2,dq3,dq4] at h3)
   (simp only [dq1,dq2,dq3,dq4] at h4)
   have ht:takesK x.1=2:=by unfold takesK;rw [if_neg (by omega),if_neg (by omega),if_pos (by omega)]
   have hi:0+Int.toNat ((Int.toNat ((z.length:Nat):Int):Int)-2)=z.length-2:=by omega
   have hi1:0+Int.toNat ((Int.toNat ((z.length:Nat):Int):Int)-1)=z.length-1:=by omega
   have hb:Int.toNat ((Int.toNat ((z.length:Nat):Int):Int)-2)-0=z.length-2:=by omega
   have hlast:(z.drop (0+Int.toNat ((Int.toNat ((z.length:Nat):Int):Int)-2))).take (Int.toNat ((Int.toNat ((z.length:Nat):Int):Nat):Int)-Int.toNat ((Int.toNat ((z.length:Nat):Int):Int)-2))=z.drop (z.length-2):=by
    rw [hi,List.take_of_length_le (by rw [List.length_drop];omega)]
   have hw:=wrong_ev (Int.toNat ((γ:Nat):Int)) (0+Int.toNat ((Int.toNat ((z.length:Nat):Int):Int)-2)) (Int.toNat ((Int.toNat ((z.length:Nat):Int):Nat):Int)-Int.toNat ((Int.toNat ((z.length:Nat):Int):Int)-2)) z (by omega) (by omega)
   rw [hlast] at hw
   have hop:opK vals nodes z x=(let p:=wrongP (z.drop (z.length-2));z.take (z.length-2)++[if p.2 then p.1 else signK x.1 (z.getD (z.length-2) V0).2.1 (z.getD (z.length-1) V0).2.1]):=by unfold opK;rw [if_neg h1,if_neg h2,if_neg h3,if_neg h4]
   simp only at hop
   generalize wrongP (z.drop (z.length-2))=p at hw hop
   have hop2:opK vals nodes z x=z.take (Int.toNat ((Int.toNat ((z.length:Nat):Int):Int)-2)-0)++[if p.2 then p.1 else signK x.1 (z.getD (0+Int.toNat ((Int.toNat ((z.length:Nat):Int):Int)-2)) V0).2.1 (z.getD (0+Int.toNat ((Int.toNat ((z.length:Nat):Int):Int)-1)) V0).2.1]:=by rw [hi,hi1,hb];exact hop
   clear hop
   have fin:=fun (v:Val) (hv:opK vals nodes z x=z.take (Int.toNat ((Int.toNat ((z.length:Nat):Int):Int)-2)-0)++[v])=>push (Int.toNat ((γ:Nat):Int)) (Int.toNat ((Int.toNat ((z.length:Nat):Int):Int)-2)-0) v hgt (by omega) hv (by omega)
   have hap2:=fun v=>hap (Int.toNat ((γ:Nat):Int)) (Int.toNat ((Int.toNat ((z.length:Nat):Int):Int)-2)-0) v hgt (by omega)
   have hN:∀ v:Val,Int.toNat ((γ:Nat):Int)=Int.toNat ((γ:Nat):Int)∧Int.toNat ((Int.toNat ((z.length:Nat):Int):Int)-2)-0≤List.length z∧0<List.length [v]∧List.length z+List.length [v]≤bigN:=fun v=>⟨rfl,(hap2 v).2⟩
   have hlt:∀ v:Val,(Int.toNat ((Int.toNat ((z.length:Nat):Int):Int)-2)-0)+List.length [v]=List.length (z.take (Int.toNat ((Int.toNat ((z.length:Nat):Int):Int)-2)-0)++[v]):=fun v=>by rw [List.length_append,List.length_take];omega
   refine ⟨⟨by omega⟩,⟨by omega⟩,_,_,_,_,_,⟨hw⟩,fun h5=>?_,fun h5=>?_⟩
   ·(simp only [dq1,dq2,dq3,dq4] at h5)
    rw [h5] at hop2
    simp only [Bool.false_eq_true,if_false] at hop2
    refine ⟨fun k5=>?_,fun k5=>⟨fun k6=>?_,fun k6=>⟨fun k7=>?_,fun k7=>⟨fun k8=>?_,fun k8=>⟨fun k9=>?_,fun k9=>by exfalso;omega⟩⟩⟩⟩⟩
    ·rw [k5] at hop2
     exact ⟨⟨by omega⟩,⟨by omega⟩,⟨rfl⟩,⟨by omega⟩,⟨rfl⟩,⟨by omega⟩,⟨by omega⟩,⟨by omega⟩,⟨rfl⟩,⟨by omega⟩,⟨rfl⟩,⟨by omega⟩,_,_,⟨s38 _ _⟩,⟨by omega⟩,⟨by omega⟩,⟨hN _⟩,⟨by omega⟩,⟨rfl,rfl,hlt _⟩,fin _ hop2,⟨by ((try dsimp only);omega)⟩⟩
    ·rw [k6] at hop2
     exact ⟨⟨by omega⟩,⟨by omega⟩,⟨rfl⟩,⟨by omega⟩,⟨rfl⟩,⟨by omega⟩,⟨by omega⟩,⟨by omega⟩,⟨rfl⟩,⟨by omega⟩,⟨rfl⟩,⟨by omega⟩,_,_,⟨s39 _ _⟩,⟨by omega⟩,⟨by omega⟩,⟨hN _⟩,⟨by omega⟩,⟨rfl,rfl,hlt _⟩,fin _ hop2,⟨by ((try dsimp only);omega)⟩⟩
    ·rw [k7] at hop2
     exact ⟨⟨by omega⟩,⟨by omega⟩,⟨rfl⟩,⟨by omega⟩,⟨rfl⟩,⟨by omega⟩,⟨by omega⟩,⟨by omega⟩,⟨rfl⟩,⟨by omega⟩,⟨rfl⟩,⟨by omega⟩,_,_,⟨s40 _ _⟩,⟨by omega⟩,⟨by omega⟩,⟨hN _⟩,⟨by omega⟩,⟨rfl,rfl,hlt _⟩,fin _ hop2,⟨by ((try dsimp only);omega)⟩⟩
    ·rw [k8] at hop2
     exact ⟨⟨by omega⟩,⟨by omega⟩,⟨rfl⟩,⟨by omega⟩,⟨rfl⟩,⟨by omega⟩,⟨by omega⟩,⟨by omega⟩,⟨rfl⟩,⟨by omega⟩,⟨rfl⟩,⟨by omega⟩,_,_,⟨s41 _ _⟩,⟨by omega⟩,⟨by omega⟩,⟨hN _⟩,⟨by omega⟩,⟨rfl,rfl,hlt _⟩,fin _ hop2,⟨by ((try dsimp only);omega)⟩⟩
    ·rw [k9] at hop2
     exact ⟨⟨by omega⟩,⟨by omega⟩,⟨rfl⟩,⟨by omega⟩,⟨rfl⟩,⟨by omega⟩,⟨by omega⟩,⟨by omega⟩,⟨rfl⟩,⟨by omega⟩,⟨rfl⟩,⟨by omega⟩,_,_,⟨s42 _ _⟩,⟨by omega⟩,⟨by omega⟩,⟨hN _⟩,⟨by omega⟩,⟨rfl,rfl,hlt _⟩,fin _ hop2,⟨by ((try dsimp only);omega)⟩⟩
   ·(simp only [dq1,dq2,dq3,dq4] at h5)
    rw [h5] at hop2
    simp only [if_true] at hop2
    exact ⟨⟨by omega⟩,⟨by omega⟩,⟨hN _⟩,⟨by omega⟩,⟨rfl,rfl,hlt _⟩,fin _ hop2,⟨by ((try dsimp only);omega)⟩⟩
 ·(simp only [dq1,dq2,dq3,dq4] at h)
  have:m=l.length:=by omega
  subst this
  rw [List.drop_length] at hc hf
  simp only [checkGo] at hc
  simp only [List.foldl_nil] at hf
  have hz1:z.length=1:=by
   rcases Nat.lt_or_ge 0 l.length with h9 | h9
   ·by_cases h:l.length=0∨((z.length:Nat):Int)=1
    ·omega
    ·rw [if_neg h] at hc;simp at hc
   ·omega
  refine ⟨⟨by omega⟩,⟨by simp⟩,⟨by omega⟩,?_⟩
  rw [hf];exact ⟨rfl,rfl⟩
end Go.Am.Z.V
