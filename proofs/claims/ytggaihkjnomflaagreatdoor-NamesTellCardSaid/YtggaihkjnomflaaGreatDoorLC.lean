/-
  A part of the proof of a law: see the text that states it.
-/
import Derived.Test.YtggaihkjnomflaaGreatDoorAm4
import Derived.Test.YtggaihkjnomflaaGreatDoorVc3
set_option linter.all false
namespace Go.Am.N.L
open Go Go.Am.Pr
set_option maxRecDepth 100000
def tZZ (c:Int):Int:=IntKind.wrap .u8 ((BitVec.toNat ((BitVec.ofInt 8 c) ||| (BitVec.ofInt 8 (32:Int)))):Int)
def csZ (c:Int):Bool:=decide (c=95)||(decide (97≤tZZ c)&&decide (tZZ c≤122))
theorem cHZ (c:Int):E 73 [.tv [] (.int .u8) c] [] (.tv [] .bool (csZ c)) []:=by
 refine arZ (vmZ c _ ?_)
 (repeat' (first | (intro _) | (refine And.intro ?_ ?_) | (refine Need.mk ?_)))
 all_goals first | (with_reducible rfl) | ((first | refine tvI ?_ | refine tvB ?_ | refine tvS ?_ | refine tvX ?_ | refine tvE ?_);simp_all [csZ,tZZ];done) | ((first | refine tvI ?_ | refine tvB ?_ | refine tvS ?_ | refine tvX ?_ | refine tvE ?_);simp_all [csZ,tZZ];intros;omega)
def aZZ (c:Int):Bool:=csZ c||(decide (48≤c)&&decide (c≤57))
theorem rNZ (c:Int):E 75 [.tv [] (.int .u8) c] [] (.tv [] .bool (aZZ c)) []:=by
 refine arZ (vVZ c _ ?_)
 (repeat' (first | (intro _) | (refine And.intro ?_ ?_) | (refine Exists.intro _ (And.intro (Need.mk (cHZ _)) ?_)) | (refine Exists.intro _ (Exists.intro _ (And.intro (Need.mk (cHZ _)) ?_))) | (refine Exists.intro _ (Exists.intro _ (Exists.intro _ (And.intro (Need.mk (cHZ _)) ?_)))) | (refine Need.mk ?_)))
 all_goals first | (with_reducible rfl) | ((first | refine tvI ?_ | refine tvB ?_ | refine tvS ?_ | refine tvX ?_ | refine tvE ?_);simp_all [aZZ];done) | ((first | refine tvI ?_ | refine tvB ?_ | refine tvS ?_ | refine tvX ?_ | refine tvE ?_);simp_all [aZZ];intros;omega)
def bcZ (c:Int):Bool:=decide (97≤c)&&decide (c≤122)
theorem qKZ (c:Int):E 92 [.tv [] (.int .u8) c] [] (.tv [] .bool (bcZ c)) []:=by
 refine arZ (vBZ c _ ?_)
 (repeat' (first | (intro _) | (refine And.intro ?_ ?_) | (refine Need.mk ?_)))
 all_goals first | (with_reducible rfl) | ((first | refine tvI ?_ | refine tvB ?_ | refine tvS ?_ | refine tvX ?_ | refine tvE ?_);simp_all [bcZ];done) | ((first | refine tvI ?_ | refine tvB ?_ | refine tvS ?_ | refine tvX ?_ | refine tvE ?_);simp_all [bcZ];intros;omega)
def nVZ (c:Int):Int:=if c=43 then 5 else if c=58 then 6 else if c=124 then 7 else 8
theorem iHZ (c:Int):E 80 [.tv [] (.int .u8) c] [] (.tv [] (.int .i64) (nVZ c)) []:=by
 refine arZ (u8Z c _ ?_)
 (repeat' (first | (intro _) | (refine And.intro ?_ ?_) | (refine Need.mk ?_)))
 all_goals first | (with_reducible rfl) | ((first | refine tvI ?_ | refine tvB ?_ | refine tvS ?_ | refine tvX ?_ | refine tvE ?_);(simp only [decide_eq_true_eq,decide_eq_false_iff_not,Bool.not_eq_true',Bool.not_eq_false',Bool.and_eq_true,Bool.or_eq_true,Bool.and_true,Bool.true_and] at *);simp_all [nVZ])
def bYZ (p:Int→Bool):List Int→Nat
 | []=>0
 | c::r=>if p c then bYZ p r+1 else 0
theorem dLZ (p:Int→Bool):∀ l,bYZ p l≤l.length
 | []=>Nat.le_refl _
 | c::r=>by
  simp only [bYZ,List.length_cons]
  have:=dLZ p r
  split <;> omega
theorem loZ (s:List Int) (i:Int) (n:Nat) (e:i=n) (hn:n≤s.length) (hl:s.length≤1000000):E 74 [.tv [] .str s,.tv [] (.int .i64) i,.fn 75 [] []] [] (.tv [] (.int .i64) (bYZ aZZ (s.drop n):Nat)) []:=by
 subst e
 refine arZ (wcZ s n _ ?_)
 refine ⟨fun z=>∃ k:Nat,z=k∧n+k≤s.length∧bYZ aZZ (s.drop n)=k+bYZ aZZ (s.drop (n+k)),fun z=>(s.length-z).toNat,⟨0,rfl,by omega,by simp⟩,?_⟩
 rintro z ⟨k,rfl,hk,hv⟩
 have hc:((n:Int)+(k:Int))=((n+k:Nat):Int):=by omega
 refine ⟨⟨by omega⟩,fun h=>?_,fun h=>?_⟩
 ·(simp only [dq1,dq2,dq3,dq4] at h)
  have hn':n+k<s.length:=by omega
  have hd:=aHZ (0:Int) hn'
  rw [hd] at hv
  simp only [bYZ] at hv
  refine ⟨⟨by omega⟩,⟨by omega⟩,_,⟨rNZ _⟩,fun hb=>⟨⟨by omega⟩,⟨k+1,rfl,by omega,?_⟩,⟨by ((try dsimp only);omega)⟩⟩,fun hb=>?_⟩
  ·rw [hc,Int.toNat_natCast] at hb
   rw [hb,if_pos rfl] at hv
   rw [hv,Nat.add_assoc n k 1];omega
  ·rw [hc,Int.toNat_natCast] at hb
   rw [hb] at hv
   refine ⟨tvI ?_,rfl⟩
   rw [hv];simp
 ·(simp only [dq1,dq2,dq3,dq4] at h)
  have:s.drop (n+k)=[]:=List.drop_eq_nil_of_le (by omega)
  rw [this] at hv
  refine ⟨tvI ?_,rfl⟩
  rw [hv];simp [bYZ]
theorem rRZ (s:List Int) (i:Int) (n:Nat) (e:i=n) (hn:n≤s.length) (hl:s.length≤1000000):E 74 [.tv [] .str s,.tv [] (.int .i64) i,.fn 92 [] []] [] (.tv [] (.int .i64) (bYZ bcZ (s.drop n):Nat)) []:=by
 subst e
 refine arZ (rVZ s n _ ?_)
 refine ⟨fun z=>∃ k:Nat,z=k∧n+k≤s.length∧bYZ bcZ (s.drop n)=k+bYZ bcZ (s.drop (n+k)),fun z=>(s.length-z).toNat,⟨0,rfl,by omega,by simp⟩,?_⟩
 rintro z ⟨k,rfl,hk,hv⟩
 have hc:((n:Int)+(k:Int))=((n+k:Nat):Int):=by omega
 refine ⟨⟨by omega⟩,fun h=>?_,fun h=>?_⟩
 ·(simp only [dq1,dq2,dq3,dq4] at h)
  have hn':n+k<s.length:=by omega
  have hd:=aHZ (0:Int) hn'
  rw [hd] at hv
  simp only [bYZ] at hv
  refine ⟨⟨by omega⟩,⟨by omega⟩,_,⟨qKZ _⟩,fun hb=>⟨⟨by omega⟩,⟨k+1,rfl,by omega,?_⟩,⟨by ((try dsimp only);omega)⟩⟩,fun hb=>?_⟩
  ·rw [hc,Int.toNat_natCast] at hb
   rw [hb,if_pos rfl] at hv
   rw [hv,Nat.add_assoc n k 1];omega
  ·rw [hc,Int.toNat_natCast] at hb
   rw [hb] at hv
   refine ⟨tvI ?_,rfl⟩
   rw [hv];simp
 ·(simp only [dq1,dq2,dq3,dq4] at h)
  have:s.drop (n+k)=[]:=List.drop_eq_nil_of_le (by omega)
  rw [this] at hv
  refine ⟨tvI ?_,rfl⟩
  rw [hv];simp [bYZ]
def gvZ (s:List Int):Bool:=!decide (s=[])&&csZ (s.getD 0 0)&&decide (bYZ aZZ s=s.length)
theorem e8Z (s:List Int) (hl:s.length≤1000000):E 66 [.tv [] .str s] [] (.tv [] .bool (gvZ s)) []:=by
 refine arZ (vyZ s _ ?_)
 (repeat' (first | (intro _) | (refine And.intro ?_ ?_) | (refine Exists.intro _ (And.intro (Need.mk (cHZ _)) ?_)) | (refine Exists.intro _ (And.intro (Need.mk (loZ s 0 0 rfl (Nat.zero_le _) hl)) ?_)) | (refine Exists.intro _ (Exists.intro _ (And.intro (Need.mk (cHZ _)) ?_))) | (refine Exists.intro _ (Exists.intro _ (And.intro (Need.mk (loZ s 0 0 rfl (Nat.zero_le _) hl)) ?_))) | (refine Exists.intro _ (Exists.intro _ (Exists.intro _ (And.intro (Need.mk (cHZ _)) ?_)))) | (refine Exists.intro _ (Exists.intro _ (Exists.intro _ (And.intro (Need.mk (loZ s 0 0 rfl (Nat.zero_le _) hl)) ?_)))) | (refine Need.mk ?_)))
 all_goals first | (with_reducible rfl) | ((simp only [decide_eq_true_eq,decide_eq_false_iff_not,Bool.not_eq_true',Bool.not_eq_false',Bool.and_eq_true,Bool.or_eq_true,Bool.and_true,Bool.true_and] at *);cases s;(first | contradiction | simp_all);simp;done) | ((first | refine tvI ?_ | refine tvB ?_ | refine tvS ?_ | refine tvX ?_ | refine tvE ?_);unfold gvZ;simp only [*,List.drop_zero,Bool.true_and,Bool.false_and,Bool.and_true,Bool.and_false];done) | ((first | refine tvI ?_ | refine tvB ?_ | refine tvS ?_ | refine tvX ?_ | refine tvE ?_);unfold gvZ;simp only [*,List.drop_zero,Bool.true_and,Bool.false_and,Bool.and_true,Bool.and_false];exact decide_eq_decide.2 Int.natCast_inj)
end Go.Am.N.L
namespace Go.Am.N.L
open Go Go.Am.Pr
set_option maxRecDepth 100000
theorem rCZ (s:List Int) (c:Int):E 91 [.tv [] .str s,.tv [] (.int .u8) c] [] (.tv [] (.int .i64) (idxB s c)) []:=arZ (uRZ s c _ ⟨rfl,rfl⟩)
theorem q5Z (s:List Int) (c:Int):E 72 [.tv [] .str s,.tv [] (.int .u8) c] [] (.tv [] (.int .i64) (idxB s c)) []:=arZ (vhZ s c _ ⟨_,⟨rCZ s c⟩,rfl,rfl⟩)
abbrev W3:Ty:=.pair (.int .i64) (.pair (.int .i64) .unit)
abbrev Res:=Except (Int×Nat) (List Int×Nat)
def fEZ (i:Int):Res→AV×adZ
 | .error (c,d)=>(.tup [.tv [] .str [],.tv [] (.int .i64) 0,.op (1,0) []],[((1,0),⟨⟨W3,(c,(i+d,()))⟩,[]⟩)])
 | .ok (t,k)=>(.tup [.tv [] .str t,.tv [] (.int .i64) (i+k),.tv [] .ref none],[])
theorem gAZ {f:FuncId} {args:List AV} {h:adZ} {o:AV×adZ} (e:EvF PP orc f args h fun a' h''=>(a',h'')=o):E f args h o.1 o.2:=by
 obtain ⟨a',h'',e,rfl⟩:=e
 exact e
def sNZ:List qT0→Int→Option Int
 | [],_=>none
 | e::r,d=>if e.getD 0 0=d then some (e.getD 1 0) else sNZ r d
def qxZ (may:List Int) (d:Int):Option Int:=if 0≤idxB may d then sNZ escapesL d else none
def s1Z (i:Int):Option Int→AV×adZ
 | none=>(.tup [.tv [] (.int .u8) 0,.op (1,0) []],[((1,0),⟨⟨W3,(10,(i,()))⟩,[]⟩)])
 | some c=>(.tup [.tv [] (.int .u8) c,.tv [] .ref none],[])
def pTZ (may:List Int):List Int→Option Int
 | []=>none
 | d::_=>qxZ may d
theorem j6Z (s:List Int) (i:Int) (n:Nat) (e:i=n) (may:List Int) (hn:n<s.length) (hl:s.length≤1000000) :
  E 93 [.tv [] .str s,.tv [] (.int .i64) i,.tv [] .str may] [] (s1Z n (pTZ may (s.drop (n+1)))).1 (s1Z n (pTZ may (s.drop (n+1)))).2:=by
 subst e
 refine gAZ (vXZ s n may _ ?_)
 refine ⟨⟨by omega⟩,fun h=>?_,fun h=>?_⟩
 ·(simp only [dq1,dq2,dq3,dq4] at h)
  have hn':n+1<s.length:=by omega
  rw [aHZ (0:Int) hn']
  have hc:((n:Int)+(1:Int))=((n+1:Nat):Int):=by omega
  simp only [pTZ]
  rw [hc]
  simp only [Int.toNat_natCast]
  refine ⟨⟨by omega⟩,⟨by omega⟩,_,⟨q5Z _ _⟩,fun h2=>?_,fun h2=>?_⟩
  ·(simp only [dq1,dq2,dq3,dq4] at h2)
   refine ⟨fun z=>∃ k:Nat,z=k∧k≤6∧sNZ (escapesL.drop k) (s.getD (n+1) 0)=sNZ escapesL (s.getD (n+1) 0),fun z=>(6-z).toNat,⟨0,rfl,by omega,by simp⟩,?_⟩
   rintro z ⟨k,rfl,hk,hv⟩
   refine ⟨fun h3=>?_,fun h3=>?_⟩
   ·(simp only [dq1,dq2,dq3,dq4] at h3)
    have hlen:escapesL.length=6:=rfl
    have hk':k<escapesL.length:=by omega
    rw [aHZ [(0:Int),(0:Int)] hk'] at hv
    simp only [sNZ] at hv
    refine ⟨⟨by omega⟩,⟨by omega⟩,⟨by omega⟩,⟨by omega⟩,⟨by omega⟩,fun h4=>?_,fun h4=>?_⟩
    ·(simp only [dq1,dq2,dq3,dq4] at h4)
     simp only [Int.toNat_natCast] at h4
     rw [if_pos h4] at hv
     refine ⟨⟨by omega⟩,⟨by omega⟩,?_⟩
     unfold qxZ
     rw [if_pos h2,← hv]
     simp only [Int.toNat_natCast,s1Z]
    ·(simp only [dq1,dq2,dq3,dq4] at h4)
     simp only [Int.toNat_natCast] at h4
     rw [if_neg h4] at hv
     exact ⟨⟨by omega⟩,⟨k+1,rfl,by omega,hv⟩,⟨by ((try dsimp only);omega)⟩⟩
   ·(simp only [dq1,dq2,dq3,dq4] at h3)
    have hlen:escapesL.length=6:=rfl
    have:escapesL.drop k=[]:=List.drop_eq_nil_of_le (by omega)
    rw [this] at hv
    unfold qxZ
    rw [if_pos h2,← hv]
    rfl
  ·(simp only [dq1,dq2,dq3,dq4] at h2)
   unfold qxZ
   rw [if_neg (by omega)]
   rfl
 ·(simp only [dq1,dq2,dq3,dq4] at h)
  have:s.drop (n+1)=[]:=List.drop_eq_nil_of_le (by omega)
  rw [this]
  rfl
end Go.Am.N.L
namespace Go.Am.N.L
open Go Go.Am.Pr
set_option maxRecDepth 100000
def s2Z:List Int:=[92,34,110,116]
def t2Z:List Int:=[92,93,45,110,116]
def textL (out:List Int) (k:Nat):List Int→Res
 | []=>.error (11,0)
 | c::r=>if c=10 then .error (11,0) else if c=34 then (if (out.length:Int)=0 then .error (10,0) else if 32<(out.length:Int) then .error (12,0) else .ok (out,k+1))
  else if c=92 then (match r with
   | []=>.error (10,k)
   | d::r'=>match qxZ s2Z d with
    | none=>.error (10,k)
    | some e=>textL (out++[e]) (k+2) r')
  else textL (out++[c]) (k+1) r
theorem b3Z (out:List Int) (k:Nat) (c:Int) (r:List Int):textL out k (c::r)=if c=10 then .error (11,0) else if c=34 then (if (out.length:Int)=0 then .error (10,0) else if 32<(out.length:Int) then .error (12,0) else .ok (out,k+1))
  else if c=92 then (match r with
   | []=>.error (10,k)
   | d::r'=>match qxZ s2Z d with
    | none=>.error (10,k)
    | some e=>textL (out++[e]) (k+2) r')
  else textL (out++[c]) (k+1) r:=by
 rw [textL.eq_def]
def i7Z (r:List Int):Res:=textL [] 1 r.tail
theorem sMZ (s:List Int) (i:Int) (n:Nat) (e:i=n) (hn:n<s.length) (hl:s.length≤1000000) :
  E 77 [.tv [] .str s,.tv [] (.int .i64) i] [] (fEZ n (i7Z (s.drop n))).1 (fEZ n (i7Z (s.drop n))).2:=by
 subst e
 refine gAZ (u6Z s n _ ?_)
 have hb:(1000000:Nat)≤awZ:=by decide
 generalize awZ=big at hb ⊢
 refine ⟨⟨by omega⟩,fun out z=>∃ k:Nat,z=((n+k:Nat):Int)∧out.length≤k∧n+k≤s.length+1∧textL out k (s.drop (n+k))=i7Z (s.drop n),fun _ z=>(s.length+1-z).toNat,⟨1,by omega,Nat.zero_le _,by omega,by simp [i7Z,List.tail_drop]⟩,?_⟩
 rintro out z ⟨k,rfl,ho,hk,hv⟩
 refine ⟨fun h=>?_,fun h=>?_⟩
 ·(simp only [dq1,dq2,dq3,dq4] at h)
  have hn':n+k<s.length:=by omega
  rw [aHZ (0:Int) hn'] at hv
  rw [b3Z] at hv
  rw [Int.toNat_natCast]
  refine ⟨⟨by omega⟩,fun h1=>⟨⟨by omega⟩,fun h2=>⟨fun h3=>?_,fun h3=>⟨fun h4=>?_,fun h4=>⟨⟨by omega⟩,?_⟩⟩⟩,fun h2=>⟨fun h3=>?_,fun h3=>⟨⟨by omega⟩,⟨by simp only [List.length_cons,List.length_nil];omega⟩,⟨by omega⟩,⟨k+1,by omega,by simp;omega,by omega,?_⟩,⟨by ((try dsimp only);omega)⟩⟩⟩⟩,fun h1=>?_⟩
  all_goals simp only [decide_eq_true_eq,decide_eq_false_iff_not,ne_eq,Decidable.not_not] at *
  ·rw [if_neg h1,if_pos h2,if_pos h3] at hv
   rw [← hv];simp [fEZ]
  ·rw [if_neg h1,if_pos h2,if_neg h3,if_pos h4] at hv
   rw [← hv];simp [fEZ]
  ·rw [if_neg h1,if_pos h2,if_neg h3,if_neg h4] at hv
   have:((n+k:Nat):Int)+1=(n:Int)+((k+1:Nat):Int):=by omega
   rw [← hv,this];rfl
  ·rw [if_neg h1,if_neg h2,if_pos h3] at hv
   have he:=j6Z s ((n+k:Nat):Int) (n+k) rfl s2Z hn' hl
   cases hr:s.drop (n+k+1) with
   | nil =>
    rw [hr] at hv he
    simp only [pTZ,s1Z] at he
    refine .inl ⟨_,_,_,⟨he⟩,fun _=>?_,nofun⟩
    rw [← hv];simp [fEZ]
   | cons d r =>
    rw [hr] at hv he
    simp only [pTZ] at he
    simp only at hv
    cases hx:qxZ s2Z d with
    | none =>
     rw [hx] at hv he
     simp only [s1Z] at he
     refine .inl ⟨_,_,_,⟨he⟩,fun _=>?_,nofun⟩
     rw [← hv];simp [fEZ]
    | some y =>
     rw [hx] at hv he
     simp only [s1Z] at he
     have hlen:=congrArg List.length hr
     simp only [List.length_drop,List.length_cons] at hlen
     refine .inr ⟨_,⟨he⟩,nofun,fun _=>⟨⟨by simp only [List.length_cons,List.length_nil];omega⟩,⟨by omega⟩,⟨by omega⟩,⟨k+2,by omega,by simp;omega,by omega,?_⟩,⟨by ((try dsimp only);omega)⟩⟩⟩
     have:s.drop (n+(k+2))=r:=by
      have:=congrArg List.tail hr
      simpa [List.tail_drop,Nat.add_assoc] using this
     rw [this,← hv]
  ·rw [if_neg h1,if_neg h2,if_neg h3] at hv
   rw [← hv,Nat.add_assoc]
  ·rw [if_pos h1] at hv
   rw [← hv];simp [fEZ]
 ·(simp only [dq1,dq2,dq3,dq4] at h)
  have:s.drop (n+k)=[]:=List.drop_eq_nil_of_le (by omega)
  rw [this] at hv
  simp only [textL] at hv
  rw [← hv];simp [fEZ]
end Go.Am.N.L
