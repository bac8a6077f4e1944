/-
  A part of the proof of a law: see the text that states it.
-/
import Derived.Test.YtggaihkjnomflaaDoorAm4
import Derived.Test.YtggaihkjnomflaaDoorVc3
set_option linter.all false
namespace Go.Am.D.L
open Go Go.Am.Pr
set_option maxRecDepth 100000
def lowK (c:Int):Int:=IntKind.wrap .u8 ((BitVec.toNat ((BitVec.ofInt 8 c) ||| (BitVec.ofInt 8 (32:Int)))):Int)
def letterK (c:Int):Bool:=decide (c=95)||(decide (97≤lowK c)&&decide (lowK c≤122))
theorem letter_ev (c:Int):E 62 [.tv [] (.int .u8) c] [] (.tv [] .bool (letterK c)) []:=by
 refine ev_of (vc62 c _ ?_)
 (repeat' (first | (intro _) | (refine And.intro ?_ ?_) | (refine Need.mk ?_)))
 all_goals first | (with_reducible rfl) | ((first | refine tvI ?_ | refine tvB ?_ | refine tvS ?_ | refine tvX ?_ | refine tvE ?_);simp_all [letterK,lowK];done) | ((first | refine tvI ?_ | refine tvB ?_ | refine tvS ?_ | refine tvX ?_ | refine tvE ?_);simp_all [letterK,lowK];intros;omega)
def partK (c:Int):Bool:=letterK c||(decide (48≤c)&&decide (c≤57))
theorem part_ev (c:Int):E 64 [.tv [] (.int .u8) c] [] (.tv [] .bool (partK c)) []:=by
 refine ev_of (vc64 c _ ?_)
 (repeat' (first | (intro _) | (refine And.intro ?_ ?_) | (refine Exists.intro _ (And.intro (Need.mk (letter_ev _)) ?_)) | (refine Exists.intro _ (Exists.intro _ (And.intro (Need.mk (letter_ev _)) ?_))) | (refine Exists.intro _ (Exists.intro _ (Exists.intro _ (And.intro (Need.mk (letter_ev _)) ?_)))) | (refine Need.mk ?_)))
 all_goals first | (with_reducible rfl) | ((first | refine tvI ?_ | refine tvB ?_ | refine tvS ?_ | refine tvX ?_ | refine tvE ?_);simp_all [partK];done) | ((first | refine tvI ?_ | refine tvB ?_ | refine tvS ?_ | refine tvX ?_ | refine tvE ?_);simp_all [partK];intros;omega)
def lowerK (c:Int):Bool:=decide (97≤c)&&decide (c≤122)
theorem lower_ev (c:Int):E 79 [.tv [] (.int .u8) c] [] (.tv [] .bool (lowerK c)) []:=by
 refine ev_of (vc79 c _ ?_)
 (repeat' (first | (intro _) | (refine And.intro ?_ ?_) | (refine Need.mk ?_)))
 all_goals first | (with_reducible rfl) | ((first | refine tvI ?_ | refine tvB ?_ | refine tvS ?_ | refine tvX ?_ | refine tvE ?_);simp_all [lowerK];done) | ((first | refine tvI ?_ | refine tvB ?_ | refine tvS ?_ | refine tvX ?_ | refine tvE ?_);simp_all [lowerK];intros;omega)
def signK (c:Int):Int:=if c=43 then 5 else if c=58 then 6 else if c=124 then 7 else 8
theorem sign_ev (c:Int):E 69 [.tv [] (.int .u8) c] [] (.tv [] (.int .i64) (signK c)) []:=by
 refine ev_of (vc69 c _ ?_)
 (repeat' (first | (intro _) | (refine And.intro ?_ ?_) | (refine Need.mk ?_)))
 all_goals first | (with_reducible rfl) | ((first | refine tvI ?_ | refine tvB ?_ | refine tvS ?_ | refine tvX ?_ | refine tvE ?_);(simp only [decide_eq_true_eq,decide_eq_false_iff_not,Bool.not_eq_true',Bool.not_eq_false',Bool.and_eq_true,Bool.or_eq_true,Bool.and_true,Bool.true_and] at *);simp_all [signK])
def runK (p:Int→Bool):List Int→Nat
 | []=>0
 | c::r=>if p c then runK p r+1 else 0
theorem runK_le (p:Int→Bool):∀ l,runK p l≤l.length
 | []=>Nat.le_refl _
 | c::r=>by
  simp only [runK,List.length_cons]
  have:=runK_le p r
  split <;> omega
theorem run_ev (s:List Int) (i:Int) (n:Nat) (e:i=n) (hn:n≤s.length) (hl:s.length≤1000000):E 63 [.tv [] .str s,.tv [] (.int .i64) i,.fn 64 [] []] [] (.tv [] (.int .i64) (runK partK (s.drop n):Nat)) []:=by
 subst e
 refine ev_of (vc63 s n _ ?_)
 refine ⟨fun z=>∃ k:Nat,z=k∧n+k≤s.length∧runK partK (s.drop n)=k+runK partK (s.drop (n+k)),fun z=>(s.length-z).toNat,⟨0,rfl,by omega,by simp⟩,?_⟩
 rintro z ⟨k,rfl,hk,hv⟩
 have hc:((n:Int)+(k:Int))=((n+k:Nat):Int):=by omega
 refine ⟨⟨by omega⟩,fun h=>?_,fun h=>?_⟩
 ·(simp only [decide_eq_true_eq,decide_eq_false_iff_not,Bool.not_eq_true',Bool.not_eq_false'] at h)
  have hn':n+k<s.length:=by omega
  have hd:=drop_cons (0:Int) hn'
  rw [hd] at hv
  simp only [runK] at hv
  refine ⟨⟨by omega⟩,⟨by omega⟩,_,⟨part_ev _⟩,fun hb=>⟨⟨by omega⟩,⟨k+1,rfl,by omega,?_⟩,⟨by ((try dsimp only);omega)⟩⟩,fun hb=>?_⟩
  ·rw [hc,Int.toNat_natCast] at hb
   rw [hb,if_pos rfl] at hv
   rw [hv,Nat.add_assoc n k 1];omega
  ·rw [hc,Int.toNat_natCast] at hb
   rw [hb] at hv
   refine ⟨tvI ?_,rfl⟩
   rw [hv];simp
 ·(simp only [decide_eq_true_eq,decide_eq_false_iff_not,Bool.not_eq_true',Bool.not_eq_false'] at h)
  have:s.drop (n+k)=[]:=List.drop_eq_nil_of_le (by omega)
  rw [this] at hv
  refine ⟨tvI ?_,rfl⟩
  rw [hv];simp [runK]
theorem run2_ev (s:List Int) (i:Int) (n:Nat) (e:i=n) (hn:n≤s.length) (hl:s.length≤1000000):E 63 [.tv [] .str s,.tv [] (.int .i64) i,.fn 79 [] []] [] (.tv [] (.int .i64) (runK lowerK (s.drop n):Nat)) []:=by
 subst e
 refine ev_of (vc63002 s n _ ?_)
 refine ⟨fun z=>∃ k:Nat,z=k∧n+k≤s.length∧runK lowerK (s.drop n)=k+runK lowerK (s.drop (n+k)),fun z=>(s.length-z).toNat,⟨0,rfl,by omega,by simp⟩,?_⟩
 rintro z ⟨k,rfl,hk,hv⟩
 have hc:((n:Int)+(k:Int))=((n+k:Nat):Int):=by omega
 refine ⟨⟨by omega⟩,fun h=>?_,fun h=>?_⟩
 ·(simp only [decide_eq_true_eq,decide_eq_false_iff_not,Bool.not_eq_true',Bool.not_eq_false'] at h)
  have hn':n+k<s.length:=by omega
  have hd:=drop_cons (0:Int) hn'
  rw [hd] at hv
  simp only [runK] at hv
  refine ⟨⟨by omega⟩,⟨by omega⟩,_,⟨lower_ev _⟩,fun hb=>⟨⟨by omega⟩,⟨k+1,rfl,by omega,?_⟩,⟨by ((try dsimp only);omega)⟩⟩,fun hb=>?_⟩
  ·rw [hc,Int.toNat_natCast] at hb
   rw [hb,if_pos rfl] at hv
   rw [hv,Nat.add_assoc n k 1];omega
  ·rw [hc,Int.toNat_natCast] at hb
   rw [hb] at hv
   refine ⟨tvI ?_,rfl⟩
   rw [hv];simp
 ·(simp only [decide_eq_true_eq,decide_eq_false_iff_not,Bool.not_eq_true',Bool.not_eq_false'] at h)
  have:s.drop (n+k)=[]:=List.drop_eq_nil_of_le (by omega)
  rw [this] at hv
  refine ⟨tvI ?_,rfl⟩
  rw [hv];simp [runK]
def nameK (s:List Int):Bool:=!decide (s=[])&&letterK (s.getD 0 0)&&decide (runK partK s=s.length)
theorem name_ev (s:List Int) (hl:s.length≤1000000):E 54 [.tv [] .str s] [] (.tv [] .bool (nameK s)) []:=by
 refine ev_of (vc54 s _ ?_)
 (repeat' (first | (intro _) | (refine And.intro ?_ ?_) | (refine Exists.intro _ (And.intro (Need.mk (letter_ev _)) ?_)) | (refine Exists.intro _ (And.intro (Need.mk (run_ev s 0 0 rfl (Nat.zero_le _) hl)) ?_)) | (refine Exists.intro _ (Exists.intro _ (And.intro (Need.mk (letter_ev _)) ?_))) | (refine Exists.intro _ (Exists.intro _ (And.intro (Need.mk (run_ev s 0 0 rfl (Nat.zero_le _) hl)) ?_))) | (refine Exists.intro _ (Exists.intro _ (Exists.intro _ (And.intro (Need.mk (letter_ev _)) ?_)))) | (refine Exists.intro _ (Exists.intro _ (Exists.intro _ (And.intro (Need.mk (run_ev s 0 0 rfl (Nat.zero_le _) hl)) ?_)))) | (refine Need.mk ?_)))
 all_goals first | (with_reducible rfl) | ((simp only [decide_eq_true_eq,decide_eq_false_iff_not,Bool.not_eq_true',Bool.not_eq_false',Bool.and_eq_true,Bool.or_eq_true,Bool.and_true,Bool.true_and] at *);cases s;(first | contradiction | simp_all);simp;done) | ((first | refine tvI ?_ | refine tvB ?_ | refine tvS ?_ | refine tvX ?_ | refine tvE ?_);unfold nameK;simp only [*,List.drop_zero,Bool.true_and,Bool.false_and,Bool.and_true,Bool.and_false];done) | ((first | refine tvI ?_ | refine tvB ?_ | refine tvS ?_ | refine tvX ?_ | refine tvE ?_);unfold nameK;simp only [*,List.drop_zero,Bool.true_and,Bool.false_and,Bool.and_true,Bool.and_false];exact decide_eq_decide.2 Int.natCast_inj)
end Go.Am.D.L
namespace Go.Am.D.L
open Go Go.Am.Pr
set_option maxRecDepth 100000
theorem idx0_ev (s:List Int) (c:Int):E 78 [.tv [] .str s,.tv [] (.int .u8) c] [] (.tv [] (.int .i64) (idxB s c)) []:=ev_of (vc78 s c _ ⟨rfl,rfl⟩)
theorem idx_ev (s:List Int) (c:Int):E 61 [.tv [] .str s,.tv [] (.int .u8) c] [] (.tv [] (.int .i64) (idxB s c)) []:=ev_of (vc61 s c _ ⟨_,⟨idx0_ev s c⟩,rfl,rfl⟩)
abbrev W3:Ty:=.pair (.int .i64) (.pair (.int .i64) .unit)
abbrev Res:=Except (Int×Nat) (List Int×Nat)
def outT (i:Int):Res→AV×Heap
 | .error (c,d)=>(.tup [.tv [] .str [],.tv [] (.int .i64) 0,.op (1,0) []],[((1,0),⟨⟨W3,(c,(i+d,()))⟩,[]⟩)])
 | .ok (t,k)=>(.tup [.tv [] .str t,.tv [] (.int .i64) (i+k),.tv [] .ref none],[])
theorem ev_out {f:FuncId} {args:List AV} {h:Heap} {o:AV×Heap} (e:EvF PP orc f args h fun a' h''=>(a',h'')=o):E f args h o.1 o.2:=by
 obtain ⟨a',h'',e,rfl⟩:=e
 exact e
def escF:List qT0→Int→Option Int
 | [],_=>none
 | e::r,d=>if e.getD 0 0=d then some (e.getD 1 0) else escF r d
def escK (may:List Int) (d:Int):Option Int:=if 0≤idxB may d then escF escapesL d else none
def outE (i:Int):Option Int→AV×Heap
 | none=>(.tup [.tv [] (.int .u8) 0,.op (1,0) []],[((1,0),⟨⟨W3,(10,(i,()))⟩,[]⟩)])
 | some c=>(.tup [.tv [] (.int .u8) c,.tv [] .ref none],[])
def escS (may:List Int):List Int→Option Int
 | []=>none
 | d::_=>escK may d
theorem escape_ev (s:List Int) (i:Int) (n:Nat) (e:i=n) (may:List Int) (hn:n<s.length) (hl:s.length≤1000000) :
  E 80 [.tv [] .str s,.tv [] (.int .i64) i,.tv [] .str may] [] (outE n (escS may (s.drop (n+1)))).1 (outE n (escS may (s.drop (n+1)))).2:=by
 subst e
 refine ev_out (vc80 s n may _ ?_)
 refine ⟨⟨by omega⟩,fun h=>?_,fun h=>?_⟩
 ·(simp only [decide_eq_true_eq,decide_eq_false_iff_not,Bool.not_eq_true',Bool.not_eq_false'] at h)
  have hn':n+1<s.length:=by omega
  rw [drop_cons (0:Int) hn']
  have hc:((n:Int)+(1:Int))=((n+1:Nat):Int):=by omega
  simp only [escS]
  rw [hc]
  simp only [Int.toNat_natCast]
  refine ⟨⟨by omega⟩,⟨by omega⟩,_,⟨idx_ev _ _⟩,fun h2=>?_,fun h2=>?_⟩
  ·(simp only [decide_eq_true_eq,decide_eq_false_iff_not,Bool.not_eq_true',Bool.not_eq_false'] at h2)
   refine ⟨fun z=>∃ k:Nat,z=k∧k≤6∧escF (escapesL.drop k) (s.getD (n+1) 0)=escF escapesL (s.getD (n+1) 0),fun z=>(6-z).toNat,⟨0,rfl,by omega,by simp⟩,?_⟩
   rintro z ⟨k,rfl,hk,hv⟩
   refine ⟨fun h3=>?_,fun h3=>?_⟩
   ·(simp only [decide_eq_true_eq,decide_eq_false_iff_not,Bool.not_eq_true',Bool.not_eq_false'] at h3)
    have hlen:escapesL.length=6:=rfl
    have hk':k<escapesL.length:=by omega
    rw [drop_cons [(0:Int),(0:Int)] hk'] at hv
    simp only [escF] at hv
    refine ⟨⟨by omega⟩,⟨by omega⟩,⟨by omega⟩,⟨by omega⟩,⟨by omega⟩,fun h4=>?_,fun h4=>?_⟩
    ·(simp only [decide_eq_true_eq,decide_eq_false_iff_not,Bool.not_eq_true',Bool.not_eq_false'] at h4)
     simp only [Int.toNat_natCast] at h4
     rw [if_pos h4] at hv
     refine ⟨⟨by omega⟩,⟨by omega⟩,?_⟩
     unfold escK
     rw [if_pos h2,← hv]
     simp only [Int.toNat_natCast,outE]
    ·(simp only [decide_eq_true_eq,decide_eq_false_iff_not,Bool.not_eq_true',Bool.not_eq_false'] at h4)
     simp only [Int.toNat_natCast] at h4
     rw [if_neg h4] at hv
     exact ⟨⟨by omega⟩,⟨k+1,rfl,by omega,hv⟩,⟨by ((try dsimp only);omega)⟩⟩
   ·(simp only [decide_eq_true_eq,decide_eq_false_iff_not,Bool.not_eq_true',Bool.not_eq_false'] at h3)
    have hlen:escapesL.length=6:=rfl
    have:escapesL.drop k=[]:=List.drop_eq_nil_of_le (by omega)
    rw [this] at hv
    unfold escK
    rw [if_pos h2,← hv]
    rfl
  ·(simp only [decide_eq_true_eq,decide_eq_false_iff_not,Bool.not_eq_true',Bool.not_eq_false'] at h2)
   unfold escK
   rw [if_neg (by omega)]
   rfl
 ·(simp only [decide_eq_true_eq,decide_eq_false_iff_not,Bool.not_eq_true',Bool.not_eq_false'] at h)
  have:s.drop (n+1)=[]:=List.drop_eq_nil_of_le (by omega)
  rw [this]
  rfl
end Go.Am.D.L
namespace Go.Am.D.L
open Go Go.Am.Pr
set_option maxRecDepth 100000
def mayT:List Int:=[92,34,110,116]
def mayC:List Int:=[92,93,45,110,116]
def textL (out:List Int) (k:Nat):List Int→Res
 | []=>.error (11,0)
 | c::r=>if c=10 then .error (11,0) else if c=34 then (if (out.length:Int)=0 then .error (10,0) else if 32<(out.length:Int) then .error (12,0) else .ok (out,k+1))
  else if c=92 then (match r with
   | []=>.error (10,k)
   | d::r'=>match escK mayT d with
    | none=>.error (10,k)
    | some e=>textL (out++[e]) (k+2) r')
  else textL (out++[c]) (k+1) r
theorem textL_cons (out:List Int) (k:Nat) (c:Int) (r:List Int):textL out k (c::r)=if c=10 then .error (11,0) else if c=34 then (if (out.length:Int)=0 then .error (10,0) else if 32<(out.length:Int) then .error (12,0) else .ok (out,k+1))
  else if c=92 then (match r with
   | []=>.error (10,k)
   | d::r'=>match escK mayT d with
    | none=>.error (10,k)
    | some e=>textL (out++[e]) (k+2) r')
  else textL (out++[c]) (k+1) r:=by
 rw [textL.eq_def]
def textK (r:List Int):Res:=textL [] 1 r.tail
theorem text_ev (s:List Int) (i:Int) (n:Nat) (e:i=n) (hn:n<s.length) (hl:s.length≤1000000) :
  E 66 [.tv [] .str s,.tv [] (.int .i64) i] [] (outT n (textK (s.drop n))).1 (outT n (textK (s.drop n))).2:=by
 subst e
 refine ev_out (vc66 s n _ ?_)
 have hb:(1000000:Nat)≤bigN:=by decide
 generalize bigN=big at hb ⊢
 refine ⟨⟨by omega⟩,fun out z=>∃ k:Nat,z=((n+k:Nat):Int)∧out.length≤k∧n+k≤s.length+1∧textL out k (s.drop (n+k))=textK (s.drop n),fun _ z=>(s.length+1-z).toNat,⟨1,by omega,Nat.zero_le _,by omega,by simp [textK,List.tail_drop]⟩,?_⟩
 rintro out z ⟨k,rfl,ho,hk,hv⟩
 refine ⟨fun h=>?_,fun h=>?_⟩
 ·(simp only [decide_eq_true_eq,decide_eq_false_iff_not,Bool.not_eq_true',Bool.not_eq_false'] at h)
  have hn':n+k<s.length:=by omega
  rw [drop_cons (0:Int) hn'] at hv
  rw [textL_cons] at hv
  rw [Int.toNat_natCast]
  refine ⟨⟨by omega⟩,fun h1=>⟨⟨by omega⟩,fun h2=>⟨fun h3=>?_,fun h3=>⟨fun h4=>?_,fun h4=>⟨⟨by omega⟩,?_⟩⟩⟩,fun h2=>⟨fun h3=>?_,fun h3=>⟨⟨by omega⟩,⟨by simp only [List.length_cons,List.length_nil];omega⟩,⟨by omega⟩,⟨k+1,by omega,by simp;omega,by omega,?_⟩,⟨by ((try dsimp only);omega)⟩⟩⟩⟩,fun h1=>?_⟩
  all_goals simp only [decide_eq_true_eq,decide_eq_false_iff_not,ne_eq,Decidable.not_not] at *
  ·rw [if_neg h1,if_pos h2,if_pos h3] at hv
   rw [← hv];simp [outT]
  ·rw [if_neg h1,if_pos h2,if_neg h3,if_pos h4] at hv
   rw [← hv];simp [outT]
  ·rw [if_neg h1,if_pos h2,if_neg h3,if_neg h4] at hv
   have:((n+k:Nat):Int)+1=(n:Int)+((k+1:Nat):Int):=by omega
   rw [← hv,this];rfl
  ·rw [if_neg h1,if_neg h2,if_pos h3] at hv
   have he:=escape_ev s ((n+k:Nat):Int) (n+k) rfl mayT hn' hl
   cases hr:s.drop (n+k+1) with
   | nil =>
    rw [hr] at hv he
    simp only [escS,outE] at he
    refine .inl ⟨_,_,_,⟨he⟩,fun _=>?_,nofun⟩
    rw [← hv];simp [outT]
   | cons d r =>
    rw [hr] at hv he
    simp only [escS] at he
    simp only at hv
    cases hx:escK mayT d with
    | none =>
     rw [hx] at hv he
     simp only [outE] at he
     refine .inl ⟨_,_,_,⟨he⟩,fun _=>?_,nofun⟩
     rw [← hv];simp [outT]
    | some y =>
     rw [hx] at hv he
     simp only [outE] at he
     have hlen:=congrArg List.length hr
     simp only [List.length_drop,List.length_cons] at hlen
     refine .inr ⟨_,⟨he⟩,nofun,fun _=>⟨⟨by simp only [List.length_cons,List.length_nil];omega⟩,⟨by omega⟩,⟨by omega⟩,⟨k+2,by omega,by simp;omega,by omega,?_⟩,⟨by ((try dsimp only);omega)⟩⟩⟩
     have:s.drop (n+(k+2))=r:=by
      have:=congrArg List.tail hr
      simpa [List.tail_drop,Nat.add_assoc] using this
     rw [this,← hv]
  ·rw [if_neg h1,if_neg h2,if_neg h3] at hv
   rw [← hv,Nat.add_assoc]
  ·rw [if_pos h1] at hv
   rw [← hv];simp [outT]
 ·(simp only [decide_eq_true_eq,decide_eq_false_iff_not,Bool.not_eq_true',Bool.not_eq_false'] at h)
  have:s.drop (n+k)=[]:=List.drop_eq_nil_of_le (by omega)
  rw [this] at hv
  simp only [textL] at hv
  rw [← hv];simp [outT]
end Go.Am.D.L
