/-
  A part of the proof of a law: see the text that states it.
-/
import Derived.Test.YtfnnapgpcndcjaaGreatDoorAm4
import Derived.Test.YtfnnapgpcndcjaaGreatDoorVc4
import Derived.Test.YtfnnapgpcndcjaaGreatDoorVc5
import Derived.Test.YtfnnapgpcndcjaaGreatDoorVc9
import Derived.Test.YtfnnapgpcndcjaaGreatDoorVcA
import Derived.Test.YtfnnapgpcndcjaaGreatDoorVcB
import Derived.Test.YtfnnapgpcndcjaaGreatDoorVcC
import Derived.Test.YtfnnapgpcndcjaaGreatDoorVcD
set_option linter.all false
namespace Go.Am.Z.V
open Go
set_option maxRecDepth 100000
abbrev Op2:=Int×Int×Unit
abbrev tOp:Ty:=.pair (.int .i64) (.pair (.int .i64) .unit)
def isK (k:Int):Bool:=decide (1≤k)&&decide (k≤9)
theorem is_ev (k:Int):E 105 [.tv [] (.int .i64) k] [] (.tv [] .bool (isK k)) []:=by
 refine ev_of (vc105 k _ ?_)
 (repeat' (first | (intro _) | (refine And.intro ?_ ?_) | (refine Need.mk ?_)))
 all_goals first | (with_reducible rfl) | ((first | refine tvI ?_ | refine tvB ?_ | refine tvS ?_ | refine tvX ?_ | refine tvE ?_);(simp only [decide_eq_true_eq,decide_eq_false_iff_not,Bool.not_eq_true',Bool.not_eq_false',Bool.and_eq_true,Bool.or_eq_true,Bool.and_true,Bool.true_and] at *);simp [isK];omega)
def hasK (k:Int):Bool:=decide (1≤k)&&decide (k≤3)
theorem has_ev (k:Int):E 106 [.tv [] (.int .i64) k] [] (.tv [] .bool (hasK k)) []:=by
 refine ev_of (vc106 k _ ?_)
 (repeat' (first | (intro _) | (refine And.intro ?_ ?_) | (refine Need.mk ?_)))
 all_goals first | (with_reducible rfl) | ((first | refine tvI ?_ | refine tvB ?_ | refine tvS ?_ | refine tvX ?_ | refine tvE ?_);(simp only [decide_eq_true_eq,decide_eq_false_iff_not,Bool.not_eq_true',Bool.not_eq_false',Bool.and_eq_true,Bool.or_eq_true,Bool.and_true,Bool.true_and] at *);simp [hasK];omega)
def manyK (k:Int):Int:=if k<4 then 0 else if k=4 then 1 else 2
def takesK (k:Int):Int:=if k=1∨k=2∨k=3 then 0 else if k=4 then 1 else if 5≤k∧k≤9 then 2 else -1
def fitsK (k n arity:Int):Bool:=isK k&&decide (0≤n)&&decide (n≤999999999999999999)&&(hasK k||decide (n=0))&&(!(decide (k=2)||decide (k=3))||(decide (0<n)&&decide (n≤arity)))
theorem fits_ev (k n arity:Int):E 83 [.tv [] tOp (k,n,()),.tv [] (.int .i64) arity] [] (.tv [] .bool (fitsK k n arity)) []:=by
 refine ev_of (vc83 k n arity _ ?_)
 (repeat' (first | (intro _) | (refine And.intro ?_ ?_) | (refine Exists.intro _ (And.intro (Need.mk (is_ev _)) ?_)) | (refine Exists.intro _ (And.intro (Need.mk (has_ev _)) ?_)) | (refine Exists.intro _ (Exists.intro _ (And.intro (Need.mk (is_ev _)) ?_))) | (refine Exists.intro _ (Exists.intro _ (And.intro (Need.mk (has_ev _)) ?_))) | (refine Exists.intro _ (Exists.intro _ (Exists.intro _ (And.intro (Need.mk (is_ev _)) ?_)))) | (refine Exists.intro _ (Exists.intro _ (Exists.intro _ (And.intro (Need.mk (has_ev _)) ?_)))) | (refine Need.mk ?_)))
 all_goals first | (with_reducible rfl) | ((first | refine tvI ?_ | refine tvB ?_ | refine tvS ?_ | refine tvX ?_ | refine tvE ?_);simp_all [fitsK];try omega)
mutual
def sure:XT→Bool
  | .mk k n l=>decide (1≤k)&&decide (k≤9)&&decide ((l.length:Int)=manyK k)&&decide (0≤n)&&decide (n≤999999999999999999)&&(decide (k<4)||decide (n=0))&&sureL l
def sureL:List XT→Bool
  | []=>true
  | x::l=>sure x&&sureL l
end
theorem sureL_all:∀ l:List XT,sureL l=l.all sure
 | []=>rfl
 | x::l=>by simp [sureL,sureL_all l]
theorem sure_eq (x:XT):sure x=(decide (1≤x.kind)&&decide (x.kind≤9)&&decide ((x.kids.length:Int)=manyK x.kind)&&decide (0≤x.num)&&decide (x.num≤999999999999999999)&&(decide (x.kind<4)||decide (x.num=0))&&x.kids.all sure):=by
 cases x;simp only [sure,sureL_all];rfl
inductive Small (b:Nat):XT→Prop
 | mk (x:XT) (h:x.kids.length≤b) (k:∀ y∈x.kids,Small b y):Small b x
theorem Small.len {b:Nat} {x:XT} (h:Small b x):x.kids.length≤b:=by cases h;assumption
theorem Small.kid {b:Nat} {x:XT} (h:Small b x):∀ y∈x.kids,Small b y:=by cases h;assumption
def right (x:XT):Bool:=(decide (x.kind=0)&&decide (x.num=0)&&decide (x.kids=[]))||sure x
theorem all_take {l:List XT} {n:Nat} (h:n=l.length) (ha:(l.take n).all sure=true):l.all sure=true:=by rw [h,List.take_length] at ha;exact ha
theorem rsure_ev:∀ x:XT,Small bigN x→E 72 [.tv [] .expr x] [] (.tv [] .bool (sure x)) []:=by
  refine XT.ind' fun x ih hs=>?_
  have ih':∀ y∈x.kids,E 72 [.tv [] .expr y] [] (.tv [] .bool (sure y)) []:=fun y hy=>ih y hy (hs.kid y hy)
  have hlen:x.kids.length≤4294967296:=hs.len
  clear ih hs
  refine ev_of (vc72 _ _ ?_)
  (repeat' (first | (intro _) | (refine And.intro ?_ ?_) | (refine Exists.intro _ (And.intro (Need.mk (is_ev _)) ?_)) | (refine Exists.intro _ (Exists.intro _ (And.intro (Need.mk (is_ev _)) ?_))) | (refine Exists.intro _ (Exists.intro _ (Exists.intro _ (And.intro (Need.mk (is_ev _)) ?_)))) | (refine Need.mk ?_)))
  all_goals first
    | (with_reducible rfl)
    | (exfalso;clear ih';(simp only [decide_eq_true_eq,decide_eq_false_iff_not,Bool.not_eq_true',Bool.not_eq_false',Bool.and_eq_true,Bool.or_eq_true,Bool.and_true,Bool.true_and] at *);omega)
    | ((first | refine tvI ?_ | refine tvB ?_ | refine tvS ?_ | refine tvX ?_ | refine tvE ?_);clear ih';rw [sure_eq];(simp only [decide_eq_true_eq,decide_eq_false_iff_not,Bool.not_eq_true',Bool.not_eq_false',Bool.and_eq_true,Bool.or_eq_true,Bool.and_true,Bool.true_and] at *);simp_all [manyK];done)
    | ((first | refine tvI ?_ | refine tvB ?_ | refine tvS ?_ | refine tvX ?_ | refine tvE ?_);clear ih';rw [sure_eq];(simp only [decide_eq_true_eq,decide_eq_false_iff_not,Bool.not_eq_true',Bool.not_eq_false',Bool.and_eq_true,Bool.or_eq_true,Bool.and_true,Bool.true_and] at *);simp_all [manyK];omega)
    | ((first | refine tvI ?_ | refine tvB ?_ | refine tvS ?_ | refine tvX ?_ | refine tvE ?_);clear ih';rw [sure_eq];symm;rw [Bool.eq_false_iff];(simp only [decide_eq_true_eq,decide_eq_false_iff_not,Bool.not_eq_true',Bool.not_eq_false',Bool.and_eq_true,Bool.or_eq_true,Bool.and_true,Bool.true_and] at *);intro hh;obtain ⟨⟨⟨⟨⟨⟨h1,h2⟩,h3⟩,h4⟩,h5⟩,h6⟩,h7⟩:=hh;unfold manyK at h3;(repeat' split at h3) <;> omega)
    | ((first | refine tvI ?_ | refine tvB ?_ | refine tvS ?_ | refine tvX ?_ | refine tvE ?_);clear ih';(simp only [decide_eq_true_eq,decide_eq_false_iff_not,Bool.not_eq_true',Bool.not_eq_false',Bool.and_eq_true,Bool.or_eq_true,Bool.and_true,Bool.true_and] at *);have hm:manyK x.kind=0:=(by unfold manyK;rw [if_pos (by omega)]);rw [sure_eq,hm];simp_all)
    | (refine ⟨fun i => ∃ n : Nat, i = n ∧ n ≤ x.kids.length ∧ (x.kids.take n).all sure = true, fun i => (x.kids.length - i).toNat, ⟨0, rfl, by omega, by simp⟩, ?_⟩
       rintro _ ⟨n,rfl,hn,ha⟩
       refine ⟨fun h=>?_,fun h=>?_⟩
       · (simp only [dq1,dq2,dq3,dq4] at h)
         have hn':n<x.kids.length:=by clear ih';(simp only [decide_eq_true_eq,decide_eq_false_iff_not,Bool.not_eq_true',Bool.not_eq_false',Bool.and_eq_true,Bool.or_eq_true,Bool.and_true,Bool.true_and] at *);omega
         have hts:=take_snoc (XT.mk 0 0 []) hn'
         refine ⟨⟨by omega⟩,_,⟨ih' _ (getD_mem' _ (by simpa using hn'))⟩,fun hb=>?_,fun hb=>⟨⟨by omega⟩,⟨rfl⟩,⟨n+1,rfl,by omega,?_⟩,⟨by ((try dsimp only);omega)⟩⟩⟩
         · refine ⟨?_,rfl⟩
           (first | refine tvI ?_ | refine tvB ?_ | refine tvS ?_ | refine tvX ?_ | refine tvE ?_)
           clear ih'
           have:x.kids.all sure=false:=by
             simp only [List.all_eq_false]
             exact ⟨_,getD_mem' (XT.mk 0 0 []) hn',by simpa using hb⟩
           rw [sure_eq,this]
           simp
         · simp only [Int.toNat_natCast] at hb
           rw [hts,List.all_append,ha]
           simpa using hb
       · refine ⟨?_,rfl⟩
         (first | refine tvI ?_ | refine tvB ?_ | refine tvS ?_ | refine tvX ?_ | refine tvE ?_)
         clear ih'
         have hall:=all_take (by (simp only [decide_eq_true_eq,decide_eq_false_iff_not,Bool.not_eq_true',Bool.not_eq_false',Bool.and_eq_true,Bool.or_eq_true,Bool.and_true,Bool.true_and] at *);omega) ha
         rw [sure_eq,hall]
         (simp only [decide_eq_true_eq,decide_eq_false_iff_not,Bool.not_eq_true',Bool.not_eq_false',Bool.and_eq_true,Bool.or_eq_true,Bool.and_true,Bool.true_and] at *);first | (simp_all [manyK];done) | (simp_all [manyK];omega))
theorem rright_ev (x:XT) (h:Small bigN x):E 39 [.tv [] .expr x] [] (.tv [] .bool (right x)) []:=by
 refine ev_of (vc39 _ _ ?_)
 (repeat' (first | (intro _) | (refine And.intro ?_ ?_) | (refine Exists.intro _ (And.intro (Need.mk (rsure_ev x h)) ?_)) | (refine Exists.intro _ (Exists.intro _ (And.intro (Need.mk (rsure_ev x h)) ?_))) | (refine Exists.intro _ (Exists.intro _ (Exists.intro _ (And.intro (Need.mk (rsure_ev x h)) ?_)))) | (refine Need.mk ?_)))
 all_goals first | (with_reducible rfl) | ((first | refine tvI ?_ | refine tvB ?_ | refine tvS ?_ | refine tvX ?_ | refine tvE ?_);clear h;simp_all [right])
mutual
def few:XT→Int→Int→Int
  | .mk _ _ l,left,deep=>if left≤0∨deep≤0 then -1 else fewL l (left-1) (deep-1)
def fewL:List XT→Int→Int→Int
  | [],left,_=>left
  | x::l,left,deep=>if few x left deep<0 then -1 else fewL l (few x left deep) deep
end
theorem few_eq (x:XT) (left deep:Int):few x left deep=if left≤0∨deep≤0 then -1 else fewL x.kids (left-1) (deep-1):=by cases x;rfl
mutual
def sizeN:XT→Nat
  | .mk _ _ l=>1+sizeNL l
def sizeNL:List XT→Nat
  | []=>0
  | x::l=>sizeN x+sizeNL l
end
theorem sizeN_eq (x:XT):sizeN x=1+sizeNL x.kids:=by cases x;rfl
theorem sizeN_pos (x:XT):0<sizeN x:=by rw [sizeN_eq];omega
theorem sizeNL_len:∀ l:List XT,l.length≤sizeNL l
 | []=>by simp [sizeNL]
 | x::l=>by have:=sizeNL_len l;have:=sizeN_pos x;simp [sizeNL];omega
theorem sizeNL_mem:∀ {l:List XT} {y:XT},y∈l→sizeN y≤sizeNL l
 | x::l,y,h=>by
  rcases List.mem_cons.1 h with e | e
  ·subst e;simp [sizeNL]
  ·have:=sizeNL_mem e;simp [sizeNL];omega
theorem small_of_size {b:Nat}:∀ x:XT,sizeN x≤b→Small b x :=
 XT.ind' fun x ih h=>by
  rw [sizeN_eq] at h
  have:=sizeNL_len x.kids
  exact ⟨x,by omega,fun y hy=>ih y hy (by have:=sizeNL_mem hy;omega)⟩
theorem few_size:∀ x:XT,∀ left deep:Int,0≤few x left deep→(sizeN x:Int)+few x left deep=left:=by
 refine XT.ind' fun x ih left deep h=>?_
 rw [few_eq] at h ⊢
 split at h
 ·omega
 ·rename_i hc
  rw [if_neg hc,sizeN_eq]
  have key:∀ (l:List XT) (a d:Int),(∀ y∈l,∀ left deep:Int,0≤few y left deep→(sizeN y:Int)+few y left deep=left)→0≤fewL l a d→(sizeNL l:Int)+fewL l a d=a:=by
   intro l
   induction l with
   | nil=>intro a d _ _;simp [sizeNL,fewL]
   | cons y l ihl =>
    intro a d hy hf
    simp only [fewL] at hf ⊢
    split at hf
    ·omega
    ·rename_i hn
     rw [if_neg hn]
     have h1:=hy y (List.mem_cons_self ..) a d (by omega)
     have h2:=ihl _ d (fun z hz=>hy z (List.mem_cons_of_mem _ hz)) hf
     simp only [sizeNL];omega
  have:=key x.kids _ _ (fun y hy=>ih y hy) h
  omega
theorem few_ev:∀ x:XT,∀ left deep:Int,left≤1000→-1000≤left→deep≤1000→-1000≤deep→E 30 [.tv [] .expr x,.tv [] (.int .i64) left,.tv [] (.int .i64) deep] [] (.tv [] (.int .i64) (few x left deep)) []:=by
 refine XT.ind' fun x ih left deep h1 h2 h3 h4=>?_
 refine ev_of (vc30 _ _ _ _ ?_)
 refine ⟨fun h=>?_,fun h=>⟨fun g=>?_,fun g=>⟨⟨by (simp only [dq1,dq2,dq3,dq4] at h);omega⟩,?_⟩⟩⟩
 ·(simp only [dq1,dq2,dq3,dq4] at h);exact ⟨tvI (by rw [few_eq,if_pos (.inl h)]),rfl⟩
 ·(simp only [dq1,dq2,dq3,dq4] at g);exact ⟨tvI (by rw [few_eq,if_pos (.inr g)]),rfl⟩
 ·(simp only [dq1,dq2,dq3,dq4] at h)
  (simp only [dq1,dq2,dq3,dq4] at g)
  have hfe:few x left deep=fewL x.kids (left-1) (deep-1):=by rw [few_eq,if_neg (by omega)]
  refine ⟨fun a i=>∃ n:Nat,i=n∧n≤x.kids.length∧0≤a∧a≤left-1-n∧fewL (x.kids.drop n) a (deep-1)=few x left deep,fun a i=>(x.kids.length-i).toNat,⟨0,rfl,by omega,by omega,by omega,by rw [hfe];rfl⟩,?_⟩
  rintro a _ ⟨n,rfl,hn,ha,hb,hf⟩
  refine ⟨fun hl=>?_,fun hl=>?_⟩
  ·(simp only [dq1,dq2,dq3,dq4] at hl)
   have hn':n<x.kids.length:=by omega
   rw [drop_cons (XT.mk 0 0 []) hn'] at hf
   simp only [fewL] at hf
   refine ⟨⟨by omega⟩,⟨by omega⟩,_,⟨ih _ (getD_mem' _ (by simpa using hn')) _ _ (by omega) (by omega) (by omega) (by omega)⟩,fun hr=>?_,fun hr=>?_⟩
   ·(simp only [dq1,dq2,dq3,dq4] at hr)
    simp only [Int.toNat_natCast] at hr ⊢
    rw [if_pos hr] at hf
    exact ⟨tvI hf,(by trivial)⟩
   ·(simp only [dq1,dq2,dq3,dq4] at hr)
    simp only [Int.toNat_natCast] at hr ⊢
    rw [if_neg hr] at hf
    have hs:=few_size _ _ _ (Int.not_lt.1 hr)
    have hp:=sizeN_pos (x.kids.getD n (XT.mk 0 0 []))
    exact ⟨⟨by omega⟩,⟨(by trivial)⟩,⟨n+1,rfl,by omega,by omega,by omega,hf⟩,⟨by ((try dsimp only);omega)⟩⟩
  ·(simp only [dq1,dq2,dq3,dq4] at hl)
   have:n=x.kids.length:=by omega
   rw [this,List.drop_length] at hf
   exact ⟨tvI hf,rfl⟩
mutual
def comp:XT→List Op2
  | .mk k n l=>if k=0∨right (.mk k n l)=false then [] else compL l++[(k,n,())]
def compL:List XT→List Op2
  | []=>[]
  | x::l=>comp x++compL l
end
theorem compL_append:∀ l m:List XT,compL (l++m)=compL l++compL m
 | [],m=>rfl
 | x::l,m=>by simp [compL,compL_append l m]
theorem comp_eq (x:XT):comp x=if x.kind=0∨right x=false then [] else compL x.kids++[(x.kind,x.num,())]:=by cases x;rfl
theorem comp_len:∀ x:XT,(comp x).length≤sizeN x:=by
 refine XT.ind' fun x ih=>?_
 have key:∀ l:List XT,(∀ y∈l,(comp y).length≤sizeN y)→(compL l).length≤sizeNL l:=by
  intro l
  induction l with
  | nil=>intro _;simp [compL]
  | cons y l ihl =>
   intro h
   have h1:=h y (List.mem_cons_self ..)
   have h2:=ihl fun z hz=>h z (List.mem_cons_of_mem _ hz)
   simp [compL,sizeNL];omega
 rw [comp_eq,sizeN_eq]
 split
 ·simp
 ·have:=key x.kids ih;simp;omega
theorem compL_len (l:List XT):(compL l).length≤sizeNL l:=by
 induction l with
 | nil=>simp [compL]
 | cons y l ih=>have:=comp_len y;simp [compL,sizeNL];omega
theorem sizeNL_append:∀ l m:List XT,sizeNL (l++m)=sizeNL l+sizeNL m
 | [],m=>by simp [sizeNL]
 | x::l,m=>by simp [sizeNL,sizeNL_append l m];omega
theorem sizeNL_take (l:List XT) (n:Nat):sizeNL (l.take n)≤sizeNL l:=by
 have:=sizeNL_append (l.take n) (l.drop n)
 rw [List.take_append_drop] at this;omega
theorem size_small {x:XT} (h:sizeN x≤1000):Small bigN x:=small_of_size x (by unfold bigN;omega)
theorem rcomp_ev:∀ x:XT,sizeN x≤1000→E 26 [.tv [] .expr x] [] (.tv [[]] (.slice tOp) (comp x)) []:=by
 refine XT.ind' fun x ih hs=>?_
 have hr:=rright_ev x (size_small hs)
 rw [sizeN_eq] at hs
 refine ev_of (vc26 _ _ ?_)
 have hc:∀ (l m:List Op2),l.length+m.length≤4000→l.length+m.length≤bigN:=fun l m h=>by unfold bigN;omega
 refine ⟨_,⟨hr⟩,fun h=>?_,fun h=>⟨fun g=>?_,fun g=>?_⟩⟩
 ·(simp only [dq1,dq2,dq3,dq4] at h);exact ⟨tvE (by rw [comp_eq,if_pos (.inl h)]),rfl⟩
 ·(simp only [dq1,dq2,dq3,dq4] at g);exact ⟨tvE (by rw [comp_eq,if_pos (.inr g)]),rfl⟩
 ·(simp only [dq1,dq2,dq3,dq4] at h)
  (simp only [dq1,dq2,dq3,dq4] at g)
  have hce:comp x=compL x.kids++[(x.kind,x.num,())]:=by rw [comp_eq,if_neg (by simp [h,g])]
  have hkl:=sizeNL_len x.kids
  refine ⟨fun l i=>∃ n:Nat,i=n∧n≤x.kids.length∧l=compL (x.kids.take n),fun l i=>(x.kids.length-i).toNat,⟨0,rfl,by omega,rfl⟩,?_⟩
  rintro _ _ ⟨n,rfl,hn,rfl⟩
  have hl:=compL_len (x.kids.take n)
  have hl2:=sizeNL_take x.kids n
  refine ⟨fun hl=>?_,fun hl=>?_⟩
  ·(simp only [dq1,dq2,dq3,dq4] at hl)
   have hn':n<x.kids.length:=by omega
   have hm:=getD_mem' (XT.mk 0 0 []) hn'
   have hsz:=sizeNL_mem hm
   have hcl:=comp_len (x.kids.getD n (XT.mk 0 0 []))
   refine ⟨⟨by omega⟩,_,⟨ih _ (getD_mem' _ (by simpa using hn')) (by simp only [Int.toNat_natCast];omega)⟩,⟨hc _ _ (by simp only [Int.toNat_natCast];omega)⟩,⟨by omega⟩,⟨rfl⟩,⟨n+1,rfl,by omega,?_⟩,⟨by ((try dsimp only);omega)⟩⟩
   rw [take_snoc (XT.mk 0 0 []) hn',compL_append]
   simp [compL]
  ·(simp only [dq1,dq2,dq3,dq4] at hl)
   have:n=x.kids.length:=by omega
   subst this
   refine ⟨⟨hc _ _ (by simp only [List.length_cons,List.length_nil];omega)⟩,tvE ?_,rfl⟩
   rw [hce,List.take_length]
def checkGo (arity:Int):List Op2→Int→Nat→Int×Int
 | [],n,i=>if i=0∨n=1 then (0,0) else ((i:Int),31)
 | x::l,n,i=>if fitsK x.1 x.2.1 arity=false∨n<takesK x.1 then ((i:Int),31) else checkGo arity l (n+(1-takesK x.1)) (i+1)
def check (l:List Op2) (arity:Int):Int×Int:=checkGo arity l 0 0
theorem fits_ev' (x:Op2) (arity:Int):E 83 [.tv [] tOp x,.tv [] (.int .i64) arity] [] (.tv [] .bool (fitsK x.1 x.2.1 arity)) []:=fits_ev x.1 x.2.1 arity
theorem fitsK_is {k n a:Int} (h:fitsK k n a=true):1≤k∧k≤9:=by
 simp [fitsK,isK] at h;omega
theorem takesL_eq {k:Int} (h:1≤k∧k≤9):List.getD takesL k.toNat 0=takesK k:=by
 have:k=1∨k=2∨k=3∨k=4∨k=5∨k=6∨k=7∨k=8∨k=9:=by omega
 rcases this with rfl | rfl | rfl | rfl | rfl | rfl | rfl | rfl | rfl <;> decide
theorem takesK_bd (k:Int):-1≤takesK k∧takesK k≤2:=by unfold takesK;(repeat' split) <;> omega
theorem takesK_nn {k:Int} (h:1≤k∧k≤9):0≤takesK k:=by unfold takesK;(repeat' split) <;> omega
theorem check_ev (l:List Op2) (arity:Int) (hl:l.length≤1000):E 55 [.tv [] (.slice tOp) l,.tv [] (.int .i64) arity] [] (.tup [.tv [] (.int .i64) (check l arity).1,.tv [] (.int .i64) (check l arity).2]) []:=by
 refine ev_of (vc55 l arity _ ?_)
 have hfin:∀ {a b:Int},(a,b)=check l arity→AV.tup [.tv [] (.int .i64) a,.tv [] (.int .i64) b]=AV.tup [.tv [] (.int .i64) (check l arity).1,.tv [] (.int .i64) (check l arity).2]:=fun h=>by rw [← h]
 refine ⟨fun n i=>∃ m:Nat,i=m∧m≤l.length∧0≤n∧n≤m∧checkGo arity (l.drop m) n m=check l arity,fun n i=>(l.length-i).toNat,⟨0,rfl,by omega,by omega,by omega,rfl⟩,?_⟩
 rintro n _ ⟨m,rfl,hm,h0,hn,hc⟩
 refine ⟨fun h=>?_,fun h=>?_⟩
 ·(simp only [dq1,dq2,dq3,dq4] at h)
  have hm':m<l.length:=by omega
  rw [drop_consI ((0:Int),(0:Int),()) hm'] at hc
  simp only [checkGo] at hc
  refine ⟨⟨by omega⟩,_,⟨fits_ev' _ _⟩,?_⟩
  generalize hx:l.getD (Int.toNat (m:Int)) ((0:Int),(0:Int),())=x at *
  refine ⟨fun hb=>?_,fun hb=>?_⟩
  ·(simp only [dq1,dq2,dq3,dq4] at hb)
   rw [if_pos (.inl hb)] at hc
   exact ⟨hfin hc,by trivial⟩
  ·(simp only [dq1,dq2,dq3,dq4] at hb)
   have hk:=fitsK_is hb
   have ht:=takesL_eq hk
   have hbd:=takesK_bd x.1
   have hnn:=takesK_nn hk
   rw [ht]
   refine ⟨⟨by omega⟩,⟨by omega⟩,fun hc2=>?_,fun hc2=>?_⟩
   ·(simp only [dq1,dq2,dq3,dq4] at hc2)
    rw [if_pos (.inr hc2)] at hc
    exact ⟨hfin hc,by trivial⟩
   ·(simp only [dq1,dq2,dq3,dq4] at hc2)
    rw [if_neg (by simp [hb];omega)] at hc
    exact ⟨⟨by omega⟩,⟨by omega⟩,⟨by omega⟩,⟨by omega⟩,⟨by omega⟩,⟨m+1,rfl,by omega,by omega,by omega,hc⟩,⟨by ((try dsimp only);omega)⟩⟩
 ·(simp only [dq1,dq2,dq3,dq4] at h)
  have:m=l.length:=by omega
  subst this
  rw [List.drop_length] at hc
  simp only [checkGo] at hc
  refine ⟨fun h1=>⟨fun h2=>?_,fun h2=>?_⟩,fun h1=>?_⟩
  ·(simp only [decide_eq_true_eq,decide_eq_false_iff_not,Bool.not_eq_true',Bool.not_eq_false',Bool.and_eq_true,Bool.or_eq_true,Bool.and_true,Bool.true_and] at *);rw [if_neg (by omega)] at hc;exact ⟨hfin hc,by trivial⟩
  ·(simp only [decide_eq_true_eq,decide_eq_false_iff_not,Bool.not_eq_true',Bool.not_eq_false',Bool.and_eq_true,Bool.or_eq_true,Bool.and_true,Bool.true_and] at *);rw [if_pos (by omega)] at hc;exact ⟨hfin hc,by trivial⟩
  ·(simp only [decide_eq_true_eq,decide_eq_false_iff_not,Bool.not_eq_true',Bool.not_eq_false',Bool.and_eq_true,Bool.or_eq_true,Bool.and_true,Bool.true_and] at *);rw [if_pos (by omega)] at hc;exact ⟨hfin hc,by trivial⟩
theorem checkGo_bd (arity:Int):∀ (l:List Op2) (n:Int) (i:Nat),checkGo arity l n i=(0,0)∨∃ j:Nat,i≤j∧j≤i+l.length∧checkGo arity l n i=((j:Int),31)
 | [],n,i=>by
  simp only [checkGo]
  split
  ·exact .inl rfl
  ·exact .inr ⟨i,by omega,by simp,rfl⟩
 | x::l,n,i=>by
  simp only [checkGo]
  split
  ·exact .inr ⟨i,by omega,by omega,rfl⟩
  ·rcases checkGo_bd arity l (n+(1-takesK x.1)) (i+1) with h | ⟨j,h1,h2,h3⟩
   ·exact .inl h
   ·exact .inr ⟨j,by omega,by simp;omega,h3⟩
theorem fits_iff (k n a:Int):fitsK k n a=true↔(1≤k∧k≤9)∧0≤n∧n≤999999999999999999∧(k≤3∨n=0)∧((k=2∨k=3)→0<n∧n≤a):=by
 simp only [fitsK,isK,hasK,Bool.and_eq_true,Bool.or_eq_true,decide_eq_true_eq,Bool.not_eq_true',Bool.or_eq_false_iff,decide_eq_false_iff_not]
 constructor
 ·rintro ⟨⟨⟨⟨h1,h2⟩,h3⟩,h4⟩,h5⟩
  refine ⟨h1,h2,h3,?_,fun h=>?_⟩ <;> omega
 ·rintro ⟨h1,h2,h3,h4,h5⟩
  refine ⟨⟨⟨⟨h1,h2⟩,h3⟩,?_⟩,?_⟩ <;> omega
def depthGo:List Op2→Int→Int→Int
 | [],_,most=>most
 | x::l,n,most=>if isK x.1=false∨n<takesK x.1 then most else depthGo l (n+(1-takesK x.1)) (max most (n+(1-takesK x.1)))
def depth (l:List Op2):Int:=depthGo l 0 0
end Go.Am.Z.V
