/-
  A part of the proof of a law: see the text that states it.
-/
import Derived.Test.YtggaihkjnomflaaDoorLG
import Derived.Test.YtggaihkjnomflaaDoorVc3
set_option linter.all false
namespace Go.Am.D.L
open Go Go.Am.Pr
set_option maxRecDepth 100000
abbrev Tok:=Except (Int×Nat) (Int×List Int×Nat×Bool)
def tokOf (kind:Int):Res→Tok
 | .error e=>.error e
 | .ok (t,k)=>.ok (kind,t,k,true)
def tokK:List Int→Tok
 | []=>.error (10,0)
 | c::r=>if c=32∨c=9∨c=10∨c=13 then .ok (0,[],1,false)
  else if c=35 then .ok (0,[],if idxB (c::r) 10<0 then (c::r).length else (idxB (c::r) 10).toNat,false)
  else if letterK c then (if 32<(runK partK (c::r):Int) then .error (12,0) else .ok (1,(c::r).take (runK partK (c::r)),runK partK (c::r),true))
  else if c=37 then tokOf 2 (wordK (c::r))
  else if c=34 then tokOf 3 (textK (c::r))
  else if c=91 then tokOf 4 (clsK (c::r))
  else if c=123 then tokOf 9 (actK (c::r))
  else if c=43∨c=58∨c=124∨c=59 then .ok (signK c,[],1,true)
  else .error (10,0)
def NextE (s:List Int) (n:Nat):Tok→Prop
 | .error (c,d)=>∃ kind t to ok,E 46 [.tv [] .str s,.tv [] (.int .i64) n] [] (.tup [.tv [] (.int .i64) kind,.tv [] .str t,.tv [] (.int .i64) to,.tv [] .bool ok,.op (1,0) []]) [((1,0),⟨⟨W3,(c,((n:Int)+d,()))⟩,[]⟩)]
 | .ok (kind,t,k,ok)=>E 46 [.tv [] .str s,.tv [] (.int .i64) n] [] (.tup [.tv [] (.int .i64) kind,.tv [] .str t,.tv [] (.int .i64) ((n:Int)+k),.tv [] .bool ok,.tv [] .ref none]) []
def NextQ (n:Nat) (a:AV) (h:Heap):Tok→Prop
 | .error (c,d)=>∃ kind t to ok,a=.tup [.tv [] (.int .i64) kind,.tv [] .str t,.tv [] (.int .i64) to,.tv [] .bool ok,.op (1,0) []]∧h=[((1,0),⟨⟨W3,(c,((n:Int)+d,()))⟩,[]⟩)]
 | .ok (kind,t,k,ok)=>a=.tup [.tv [] (.int .i64) kind,.tv [] .str t,.tv [] (.int .i64) ((n:Int)+k),.tv [] .bool ok,.tv [] .ref none]∧h=[]
theorem next_of {s:List Int} {n:Nat} {t:Tok} (e:EvF PP orc 46 [.tv [] .str s,.tv [] (.int .i64) n] [] fun a h=>NextQ n a h t):NextE s n t:=by
 obtain ⟨a,h,e,hq⟩:=e
 match t,hq with
 | .error (c,d),⟨k,t,to,ok,h1,h2⟩=>subst h1 h2;exact ⟨k,t,to,ok,e⟩
 | .ok (k,t,m,ok),⟨h1,h2⟩=>subst h1 h2;exact e
theorem idxB_bound:∀ (l:List Int) (c:Int),-1≤idxB l c∧idxB l c<l.length∨idxB l c=-1
 | [],_=>.inr rfl
 | a::l,c=>by
  simp only [idxB,List.length_cons]
  have:=idxB_bound l c
  split
  ·left;omega
  ·split <;> omega
theorem res_next {f:FuncId} {s:List Int} {n:Nat} {kind:Int} {o:Res} (e:E f [.tv [] .str s,.tv [] (.int .i64) n] [] (outT n o).1 (outT n o).2) {T:Tok} (h:T=tokOf kind o) :
  (∃ t to c at',Need (E f [.tv [] .str s,.tv [] (.int .i64) n] [] (.tup [.tv [] .str t,.tv [] (.int .i64) to,.op (1,0) []]) [((1,0),⟨⟨W3,(c,(at',()))⟩,[]⟩)]) ∧
   NextQ n (.tup [.tv [] (.int .i64) kind,.tv [] .str t,.tv [] (.int .i64) to,.tv [] .bool true,.op (1,0) []]) [((1,0),⟨⟨W3,(c,(at',()))⟩,[]⟩)] T) ∨
  (∃ t to,Need (E f [.tv [] .str s,.tv [] (.int .i64) n] [] (.tup [.tv [] .str t,.tv [] (.int .i64) to,.tv [] .ref none]) []) ∧
   NextQ n (.tup [.tv [] (.int .i64) kind,.tv [] .str t,.tv [] (.int .i64) to,.tv [] .bool true,.tv [] .ref none]) [] T):=by
 subst h
 match o,e with
 | .error (c,d),e=>exact .inl ⟨_,_,_,_,⟨e⟩,_,_,_,_,rfl,rfl⟩
 | .ok (t,k),e=>exact .inr ⟨_,_,⟨e⟩,rfl,rfl⟩
theorem next_ev (s:List Int) (n:Nat) (hn:n<s.length) (hl:s.length≤1000000) (hs:∀ c∈s,0≤c∧c<256):NextE s n (tokK (s.drop n)):=by
 refine next_of (vc46 s n _ ?_)
 have hd:=drop_cons (0:Int) hn
 have ht:tokK (s.drop n)=tokK (s.getD n 0::s.drop (n+1)):=by rw [← hd]
 rw [tokK,← hd] at ht
 rw [Int.toNat_natCast]
 refine ⟨⟨by omega⟩,fun h1=>⟨⟨by omega⟩,?_⟩,fun h1=>⟨fun h2=>⟨⟨by omega⟩,?_⟩,fun h2=>⟨fun h3=>⟨⟨by omega⟩,?_⟩,fun h3=>⟨fun h4=>⟨⟨by omega⟩,?_⟩,fun h4=>?_⟩⟩⟩⟩
 all_goals simp only [decide_eq_true_eq,decide_eq_false_iff_not] at *
 ·rw [if_pos (by omega)] at ht;rw [ht];exact ⟨rfl,rfl⟩
 ·rw [if_pos (by omega)] at ht;rw [ht];exact ⟨rfl,rfl⟩
 ·rw [if_pos (by omega)] at ht;rw [ht];exact ⟨rfl,rfl⟩
 ·rw [if_pos (by omega)] at ht;rw [ht];exact ⟨rfl,rfl⟩
 ·rw [if_neg (by omega)] at ht
  refine ⟨fun h5=>⟨⟨by omega⟩,_,⟨idx_ev _ _⟩,?_⟩,fun h5=>?_⟩
  ·rw [if_pos h5] at ht
   have hcut:cut s n (Int.toNat (s.length:Int))=s.drop n:=by
    unfold cut;rw [Int.toNat_natCast,List.take_of_length_le (Nat.le_refl _)]
   rw [hcut]
   have hbd:=idxB_bound (s.drop n) 10
   have hlen:(s.drop n).length=s.length-n:=List.length_drop ..
   refine ⟨fun h6=>⟨⟨by omega⟩,⟨by omega⟩,?_⟩,fun h6=>⟨⟨by omega⟩,?_⟩⟩
   ·skip
    rw [if_pos h6] at ht
    have e1:(n:Int)+((s.length:Int)-n)=(n:Int)+((s.drop n).length:Nat):=by omega
    rw [ht,e1];exact ⟨rfl,rfl⟩
   ·skip
    rw [if_neg h6] at ht
    have e1:(n:Int)+idxB (s.drop n) 10=(n:Int)+((idxB (s.drop n) 10).toNat:Nat):=by omega
    rw [ht,e1];exact ⟨rfl,rfl⟩
  ·rw [if_neg h5] at ht
   refine ⟨_,⟨letter_ev _⟩,fun h6=>⟨_,⟨run_ev s n n rfl (by omega) hl⟩,?_⟩,fun h6=>⟨⟨by omega⟩,?_⟩⟩
   ·rw [if_pos h6] at ht
    have hrl:=runK_le partK (s.drop n)
    simp only [List.length_drop] at hrl
    refine ⟨fun h7=>?_,fun h7=>⟨⟨by omega⟩,⟨by omega⟩,⟨by omega⟩,?_⟩⟩
    ·skip
     rw [if_pos h7] at ht
     rw [ht];exact ⟨_,_,_,_,rfl,by simp⟩
    ·skip
     rw [if_neg h7] at ht
     have e1:Int.toNat ((n:Int)+(runK partK (s.drop n):Nat))=n+runK partK (s.drop n):=by omega
     rw [ht,e1,cut_take];exact ⟨rfl,rfl⟩
   ·rw [h6,if_neg (by decide)] at ht
    refine ⟨fun h7=>?_,fun h7=>⟨fun h8=>?_,fun h8=>⟨fun h9=>?_,fun h9=>⟨fun h10=>?_,fun h10=>?_⟩⟩⟩⟩
    ·rw [if_pos h7] at ht
     exact res_next (word_ev s n n rfl hn hl) ht
    ·rw [if_neg h7,if_pos h8] at ht
     exact res_next (text_ev s n n rfl hn hl) ht
    ·rw [if_neg h7,if_neg h8,if_pos h9] at ht
     exact res_next (class_ev s n n rfl hn hl hs) ht
    ·rw [if_neg h7,if_neg h8,if_neg h9,if_pos h10] at ht
     exact res_next (action_ev s n n rfl hn hl h10) ht
    ·rw [if_neg h7,if_neg h8,if_neg h9,if_neg h10] at ht
     refine ⟨fun h11=>⟨⟨by omega⟩,_,⟨sign_ev _⟩,⟨by omega⟩,?_⟩,fun h11=>⟨fun h12=>⟨⟨by omega⟩,_,⟨sign_ev _⟩,⟨by omega⟩,?_⟩,fun h12=>⟨fun h13=>⟨⟨by omega⟩,_,⟨sign_ev _⟩,⟨by omega⟩,?_⟩,fun h13=>⟨fun h14=>⟨⟨by omega⟩,_,⟨sign_ev _⟩,⟨by omega⟩,?_⟩,fun h14=>?_⟩⟩⟩⟩
     ·rw [if_pos (by omega)] at ht;rw [ht];exact ⟨rfl,rfl⟩
     ·rw [if_pos (by omega)] at ht;rw [ht];exact ⟨rfl,rfl⟩
     ·rw [if_pos (by omega)] at ht;rw [ht];exact ⟨rfl,rfl⟩
     ·rw [if_pos (by omega)] at ht;rw [ht];exact ⟨rfl,rfl⟩
     ·rw [if_neg (by omega)] at ht;rw [ht];exact ⟨_,_,_,_,rfl,by simp⟩
end Go.Am.D.L
