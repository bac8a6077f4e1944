/-
  A part of the proof of a law: see the text that states it.
-/
import Derived.Test.YtggaihkjnomflaaGreatDoorLG
import Derived.Test.YtggaihkjnomflaaGreatDoorVc3
set_option linter.all false
namespace Go.Am.N.L
open Go Go.Am.Pr
set_option maxRecDepth 100000
abbrev Tok:=Except (Int×Nat) (Int×List Int×Nat×Bool)
def iyZ (kind:Int):Res→Tok
 | .error e=>.error e
 | .ok (t,k)=>.ok (kind,t,k,true)
def dVZ:List Int→Tok
 | []=>.error (10,0)
 | c::r=>if c=32∨c=9∨c=10∨c=13 then .ok (0,[],1,false)
  else if c=35 then .ok (0,[],if idxB (c::r) 10<0 then (c::r).length else (idxB (c::r) 10).toNat,false)
  else if csZ c then (if 32<(bYZ aZZ (c::r):Int) then .error (12,0) else .ok (1,(c::r).take (bYZ aZZ (c::r)),bYZ aZZ (c::r),true))
  else if c=37 then iyZ 2 (fDZ (c::r))
  else if c=34 then iyZ 3 (i7Z (c::r))
  else if c=91 then iyZ 4 (sFZ (c::r))
  else if c=123 then iyZ 9 (actK (c::r))
  else if c=43∨c=58∨c=124∨c=59 then .ok (nVZ c,[],1,true)
  else .error (10,0)
def tPZ (s:List Int) (n:Nat):Tok→Prop
 | .error (c,d)=>∃ kind t to ok,E 55 [.tv [] .str s,.tv [] (.int .i64) n] [] (.tup [.tv [] (.int .i64) kind,.tv [] .str t,.tv [] (.int .i64) to,.tv [] .bool ok,.op (1,0) []]) [((1,0),⟨⟨W3,(c,((n:Int)+d,()))⟩,[]⟩)]
 | .ok (kind,t,k,ok)=>E 55 [.tv [] .str s,.tv [] (.int .i64) n] [] (.tup [.tv [] (.int .i64) kind,.tv [] .str t,.tv [] (.int .i64) ((n:Int)+k),.tv [] .bool ok,.tv [] .ref none]) []
def rGZ (n:Nat) (a:AV) (h:adZ):Tok→Prop
 | .error (c,d)=>∃ kind t to ok,a=.tup [.tv [] (.int .i64) kind,.tv [] .str t,.tv [] (.int .i64) to,.tv [] .bool ok,.op (1,0) []]∧h=[((1,0),⟨⟨W3,(c,((n:Int)+d,()))⟩,[]⟩)]
 | .ok (kind,t,k,ok)=>a=.tup [.tv [] (.int .i64) kind,.tv [] .str t,.tv [] (.int .i64) ((n:Int)+k),.tv [] .bool ok,.tv [] .ref none]∧h=[]
theorem sLZ {s:List Int} {n:Nat} {t:Tok} (e:EvF PP orc 55 [.tv [] .str s,.tv [] (.int .i64) n] [] fun a h=>rGZ n a h t):tPZ s n t:=by
 obtain ⟨a,h,e,hq⟩:=e
 match t,hq with
 | .error (c,d),⟨k,t,to,ok,h1,h2⟩=>subst h1 h2;exact ⟨k,t,to,ok,e⟩
 | .ok (k,t,m,ok),⟨h1,h2⟩=>subst h1 h2;exact e
theorem cGZ:∀ (l:List Int) (c:Int),-1≤idxB l c∧idxB l c<l.length∨idxB l c=-1
 | [],_=>.inr rfl
 | a::l,c=>by
  simp only [idxB,List.length_cons]
  have:=cGZ l c
  split
  ·left;omega
  ·split <;> omega
theorem fJZ {f:FuncId} {s:List Int} {n:Nat} {kind:Int} {o:Res} (e:E f [.tv [] .str s,.tv [] (.int .i64) n] [] (fEZ n o).1 (fEZ n o).2) {T:Tok} (h:T=iyZ kind o) :
  (∃ t to c at',Need (E f [.tv [] .str s,.tv [] (.int .i64) n] [] (.tup [.tv [] .str t,.tv [] (.int .i64) to,.op (1,0) []]) [((1,0),⟨⟨W3,(c,(at',()))⟩,[]⟩)]) ∧
   rGZ n (.tup [.tv [] (.int .i64) kind,.tv [] .str t,.tv [] (.int .i64) to,.tv [] .bool true,.op (1,0) []]) [((1,0),⟨⟨W3,(c,(at',()))⟩,[]⟩)] T) ∨
  (∃ t to,Need (E f [.tv [] .str s,.tv [] (.int .i64) n] [] (.tup [.tv [] .str t,.tv [] (.int .i64) to,.tv [] .ref none]) []) ∧
   rGZ n (.tup [.tv [] (.int .i64) kind,.tv [] .str t,.tv [] (.int .i64) to,.tv [] .bool true,.tv [] .ref none]) [] T):=by
 subst h
 match o,e with
 | .error (c,d),e=>exact .inl ⟨_,_,_,_,⟨e⟩,_,_,_,_,rfl,rfl⟩
 | .ok (t,k),e=>exact .inr ⟨_,_,⟨e⟩,rfl,rfl⟩
theorem rJZ (s:List Int) (n:Nat) (hn:n<s.length) (hl:s.length≤1000000) (hs:∀ c∈s,0≤c∧c<256):tPZ s n (dVZ (s.drop n)):=by
 refine sLZ (vYZ s n _ ?_)
 have hd:=aHZ (0:Int) hn
 have ht:dVZ (s.drop n)=dVZ (s.getD n 0::s.drop (n+1)):=by rw [← hd]
 rw [dVZ,← hd] at ht
 rw [Int.toNat_natCast]
 refine ⟨⟨by omega⟩,fun h1=>⟨⟨by omega⟩,?_⟩,fun h1=>⟨fun h2=>⟨⟨by omega⟩,?_⟩,fun h2=>⟨fun h3=>⟨⟨by omega⟩,?_⟩,fun h3=>⟨fun h4=>⟨⟨by omega⟩,?_⟩,fun h4=>?_⟩⟩⟩⟩
 all_goals simp only [decide_eq_true_eq,decide_eq_false_iff_not] at *
 ·rw [if_pos (by omega)] at ht;rw [ht];exact ⟨rfl,rfl⟩
 ·rw [if_pos (by omega)] at ht;rw [ht];exact ⟨rfl,rfl⟩
 ·rw [if_pos (by omega)] at ht;rw [ht];exact ⟨rfl,rfl⟩
 ·rw [if_pos (by omega)] at ht;rw [ht];exact ⟨rfl,rfl⟩
 ·rw [if_neg (by omega)] at ht
  refine ⟨fun h5=>⟨⟨by omega⟩,_,⟨q5Z _ _⟩,?_⟩,fun h5=>?_⟩
  ·rw [if_pos h5] at ht
   have hcut:cut s n (Int.toNat (s.length:Int))=s.drop n:=by
    unfold cut;rw [Int.toNat_natCast,List.take_of_length_le (Nat.le_refl _)]
   rw [hcut]
   have hbd:=cGZ (s.drop n) 10
   have hlen:(s.drop n).length=s.length-n:=List.length_drop ..
   refine ⟨fun h6=>⟨⟨by omega⟩,⟨by omega⟩,?_⟩,fun h6=>⟨⟨by omega⟩,?_⟩⟩
   ·skip
    rw [if_pos h6] at ht
    have e1:(n:Int)+((s.length:Int)-n)=(n:Int)+((s.drop n).length:Nat):=by omega
    rw [ht,e1];exact ⟨rfl,rfl⟩
   ·skip
    rw [if_neg h6] at ht
    have e1:(n:Int)+idxB (s.drop n) 10=(n:Int)+((idxB (s.drop n) 10).toNat:Nat):=by omega
    rw [ht,e1];exact ⟨rfl,rfl⟩
  ·rw [if_neg h5] at ht
   refine ⟨_,⟨cHZ _⟩,fun h6=>⟨_,⟨loZ s n n rfl (by omega) hl⟩,?_⟩,fun h6=>⟨⟨by omega⟩,?_⟩⟩
   ·rw [if_pos h6] at ht
    have hrl:=dLZ aZZ (s.drop n)
    simp only [List.length_drop] at hrl
    refine ⟨fun h7=>?_,fun h7=>⟨⟨by omega⟩,⟨by omega⟩,⟨by omega⟩,?_⟩⟩
    ·skip
     rw [if_pos h7] at ht
     rw [ht];exact ⟨_,_,_,_,rfl,by simp⟩
    ·skip
     rw [if_neg h7] at ht
     have e1:Int.toNat ((n:Int)+(bYZ aZZ (s.drop n):Nat))=n+bYZ aZZ (s.drop n):=by omega
     rw [ht,e1,lUZ];exact ⟨rfl,rfl⟩
   ·rw [h6,if_neg (by decide)] at ht
    refine ⟨fun h7=>?_,fun h7=>⟨fun h8=>?_,fun h8=>⟨fun h9=>?_,fun h9=>⟨fun h10=>?_,fun h10=>?_⟩⟩⟩⟩
    ·rw [if_pos h7] at ht
     exact fJZ (sRZ s n n rfl hn hl) ht
    ·rw [if_neg h7,if_pos h8] at ht
     exact fJZ (sMZ s n n rfl hn hl) ht
    ·rw [if_neg h7,if_neg h8,if_pos h9] at ht
     exact fJZ (p9Z s n n rfl hn hl hs) ht
    ·rw [if_neg h7,if_neg h8,if_neg h9,if_pos h10] at ht
     exact fJZ (nSZ s n n rfl hn hl h10) ht
    ·rw [if_neg h7,if_neg h8,if_neg h9,if_neg h10] at ht
     refine ⟨fun h11=>⟨⟨by omega⟩,_,⟨iHZ _⟩,⟨by omega⟩,?_⟩,fun h11=>⟨fun h12=>⟨⟨by omega⟩,_,⟨iHZ _⟩,⟨by omega⟩,?_⟩,fun h12=>⟨fun h13=>⟨⟨by omega⟩,_,⟨iHZ _⟩,⟨by omega⟩,?_⟩,fun h13=>⟨fun h14=>⟨⟨by omega⟩,_,⟨iHZ _⟩,⟨by omega⟩,?_⟩,fun h14=>?_⟩⟩⟩⟩
     ·rw [if_pos (by omega)] at ht;rw [ht];exact ⟨rfl,rfl⟩
     ·rw [if_pos (by omega)] at ht;rw [ht];exact ⟨rfl,rfl⟩
     ·rw [if_pos (by omega)] at ht;rw [ht];exact ⟨rfl,rfl⟩
     ·rw [if_pos (by omega)] at ht;rw [ht];exact ⟨rfl,rfl⟩
     ·rw [if_neg (by omega)] at ht;rw [ht];exact ⟨_,_,_,_,rfl,by simp⟩
end Go.Am.N.L
