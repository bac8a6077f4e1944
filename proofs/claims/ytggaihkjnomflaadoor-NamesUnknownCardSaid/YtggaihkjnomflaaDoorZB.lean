/-
  A part of the proof of a law: see the text that states it.
-/
import Derived.Test.YtggaihkjnomflaaDoorS
import Derived.Test.YtggaihkjnomflaaDoorLM
import Derived.Test.YtggaihkjnomflaaDoorVcI
set_option linter.all false
namespace Go.Am.D
open Go Go.Am.Pr Go.Am.D.L
set_option maxRecDepth 100000
abbrev sv (s:List Int):AV:=.tv [] .str s
abbrev joinL (sep:List Int) (l:List qT0):List Int:=List.intercalate sep l
theorem join_ev (l:List qT0) (sep:List Int) (h1:l.length≤bigN) (h2:(joinL sep l).length≤140737488355328):E 27 [.tv [] qt9 l,.tv [] .str sep] [] (sv (joinL sep l)) [] :=
 ev_prim (g:=joinPrim) [] rfl (by show (if _ then _ else _)=_;rw [if_pos ⟨h1,h2⟩])
def nameO (s:List Int):Bool:=decide (s.length≤32)&&nameK s
theorem nameO_ev (s:List Int):E 37 [sv s] [] (bv (nameO s)) []:=by
 refine ev_of (vc37 s _ ⟨fun h=>?_,fun h=>?_⟩)
 ·(simp only [decide_eq_true_eq,decide_eq_false_iff_not,Bool.not_eq_true',Bool.not_eq_false'] at h)
  refine ⟨_,⟨name_ev s (by omega)⟩,tvB ?_,rfl⟩
  rw [nameO,decide_eq_true (by omega),Bool.true_and]
 ·(simp only [decide_eq_true_eq,decide_eq_false_iff_not,Bool.not_eq_true',Bool.not_eq_false'] at h)
  refine ⟨tvB ?_,rfl⟩
  rw [nameO,decide_eq_false (by omega),Bool.false_and]
def rise:List Int→Bool
 | a::b::r=>if b≤a then false else rise (b::r)
 | _=>true
def patO (p:Pat):Bool:=if p.1≠[] then decide (p.1.length≤32)&&decide (p.2.1=[])&&!p.2.2.1 else rise p.2.1&&!decide (p.2.1=[])
theorem rise_cons {s:List Int} {k:Nat} (hk:k+1<s.length):rise (s.drop k)=if s.getD (k+1) 0≤s.getD k 0 then false else rise (s.drop (k+1)):=by
 rw [drop_cons (0:Int) (show k<s.length by omega),drop_cons (0:Int) hk,rise]
theorem patO_ev (p:Pat) (hl:p.2.1.length≤1000000):E 33 [.tv [] tPat p] [] (bv (patO p)) []:=by
 obtain ⟨t,s,m,⟨⟩⟩:=p
 dsimp only at hl
 refine ev_of (vc33 t s m _ ⟨fun h=>?_,fun h=>?_⟩)
 ·simp only [Bool.not_eq_true',decide_eq_false_iff_not] at h
  rw [patO,if_pos h]
  refine ⟨fun h1=>⟨fun h2=>⟨tvB ?_,rfl⟩,fun h2=>⟨tvB ?_,rfl⟩⟩,fun h1=>⟨tvB ?_,rfl⟩⟩
  ·(simp only [decide_eq_true_eq,decide_eq_false_iff_not,Bool.not_eq_true',Bool.not_eq_false'] at h1 h2)
   rw [decide_eq_true (show t.length≤32 by omega),decide_eq_true h2];rfl
  ·(simp only [decide_eq_true_eq,decide_eq_false_iff_not,Bool.not_eq_true',Bool.not_eq_false'] at h1 h2)
   rw [decide_eq_false h2,Bool.and_false];rfl
  ·(simp only [decide_eq_true_eq,decide_eq_false_iff_not,Bool.not_eq_true',Bool.not_eq_false'] at h1)
   rw [decide_eq_false (show ¬ t.length≤32 by omega)];rfl
 ·simp only [Bool.not_eq_false',decide_eq_true_eq] at h
  rw [patO,if_neg (fun q=>q h)]
  refine ⟨fun z=>∃ k:Nat,z=((k+1:Nat):Int)∧k≤s.length∧rise (s.drop k)=rise s,fun z=>((s.length:Int)-z).toNat,⟨0,rfl,by omega,rfl⟩,?_⟩
  rintro z ⟨k,rfl,hk,hv⟩
  refine ⟨fun h1=>?_,fun h1=>?_⟩
  ·(simp only [decide_eq_true_eq,decide_eq_false_iff_not,Bool.not_eq_true',Bool.not_eq_false'] at h1)
   have e1:(((k+1:Nat):Int)-1).toNat=k:=by omega
   rw [e1,Int.toNat_natCast]
   rw [rise_cons (by omega)] at hv
   refine ⟨⟨by omega⟩,⟨by omega⟩,⟨by omega⟩,fun h2=>⟨tvB ?_,rfl⟩,fun h2=>⟨⟨by omega⟩,⟨k+1,by omega,by omega,?_⟩,⟨by ((try dsimp only);omega)⟩⟩⟩
   ·(simp only [decide_eq_true_eq,decide_eq_false_iff_not,Bool.not_eq_true',Bool.not_eq_false'] at h2)
    rw [if_pos h2] at hv
    rw [← hv];rfl
   ·(simp only [decide_eq_true_eq,decide_eq_false_iff_not,Bool.not_eq_true',Bool.not_eq_false'] at h2)
    rw [if_neg h2] at hv;exact hv
  ·(simp only [decide_eq_true_eq,decide_eq_false_iff_not,Bool.not_eq_true',Bool.not_eq_false'] at h1)
   have e:rise (s.drop k)=true:=by
    have hd:(s.drop k).length≤1:=by rw [List.length_drop];omega
    match s.drop k,hd with
    | [],_=>rfl
    | [a],_=>rfl
   rw [e] at hv
   refine ⟨tvB ?_,rfl⟩
   rw [← hv,Bool.true_and]
def openK:Int→List Int→Bool
 | d,[]=>decide (d=1)
 | d,c::r=>let e:=if c=123 then d+1 else if c=125 then d-1 else d;if 4<e∨e=0 then false else openK e r
def actO (s:List Int):Bool:=decide (s.length≤200)&&openK 1 s
theorem act_tok (s:List Int) (hs:s.length≤200) (x:List Int):∀ (r:List Int) (j:Nat) (d:Int),j+r.length=s.length→1≤d→d≤4→openK d r=true→actL (123::(s++125::x)) d (j+1) (r++125::x)=.ok (s,s.length+2)
 | [],j,d,hj,h1,h2,h=>by
  simp only [openK,decide_eq_true_eq] at h
  simp only [List.length_nil] at hj
  rw [List.nil_append,actL,if_neg (by decide),if_pos rfl,if_neg (by omega),if_neg (by omega)]
  have:((123::(s++125::x)).take (j+1)).drop 1=s:=by
   rw [List.take_succ_cons];show (s++125::x).take j=s
   rw [show j=s.length by omega,List.take_left]
  rw [this];congr 2;omega
 | c::r,j,d,hj,h1,h2,h=>by
  simp only [List.length_cons] at hj
  rw [openK] at h
  rw [List.cons_append,actL]
  by_cases hc:c=123
  ·rw [if_pos hc] at h ⊢
   rw [if_neg (by intro q;rw [if_pos (.inl q)] at h;cases h)]
   have h':¬ (4<d+1∨d+1=0):=by intro q;rw [if_pos q] at h;cases h
   rw [if_neg h'] at h
   exact act_tok s hs x r (j+1) (d+1) (by omega) (by omega) (by omega) h
  rw [if_neg hc] at h ⊢
  by_cases hc2:c=125
  ·rw [if_pos hc2] at h ⊢
   have h':¬ (4<d-1∨d-1=0):=by intro q;rw [if_pos q] at h;cases h
   rw [if_neg h'] at h
   rw [if_pos (by omega)]
   exact act_tok s hs x r (j+1) (d-1) (by omega) (by omega) (by omega) h
  ·rw [if_neg hc2] at h ⊢
   rw [if_neg (by omega)] at h
   exact act_tok s hs x r (j+1) d (by omega) h1 h2 h
theorem act_not (s:List Int):∀ (r:List Int) (j:Nat) (d:Int),j+r.length=s.length→1≤d→d≤4→openK d r=false→∀ t m,actL (123::(s++[125])) d (j+1) (r++[125])=.ok (t,m)→t.length<s.length
 | [],j,d,hj,h1,h2,h,t,m,e=>by
  simp only [openK,decide_eq_false_iff_not] at h
  rw [List.nil_append,actL,if_neg (by decide),if_pos rfl,if_pos (by omega),actL] at e
  cases e
 | c::r,j,d,hj,h1,h2,h,t,m,e=>by
  simp only [List.length_cons] at hj
  rw [openK] at h
  rw [List.cons_append,actL] at e
  by_cases hc:c=123
  ·rw [if_pos hc] at h e
   by_cases h4:4<d+1
   ·rw [if_pos h4] at e;cases e
   ·rw [if_neg h4] at e
    rw [if_neg (by omega)] at h
    exact act_not s r (j+1) (d+1) (by omega) (by omega) (by omega) h t m e
  rw [if_neg hc] at h e
  by_cases hc2:c=125
  ·rw [if_pos hc2] at h e
   by_cases h4:0<d-1
   ·rw [if_pos h4] at e
    rw [if_neg (by omega)] at h
    exact act_not s r (j+1) (d-1) (by omega) (by omega) (by omega) h t m e
   ·rw [if_neg h4] at e
    split at e
    ·cases e
    ·cases e
     rw [List.length_drop,List.length_take];omega
  ·rw [if_neg hc2] at h e
   rw [if_neg (by omega)] at h
   exact act_not s r (j+1) d (by omega) h1 h2 h t m e
theorem action_evR (s:List Int) (hs:∀ c∈s,0≤c∧c<256):E 51 [sv s] [] (bv (actO s)) []:=by
 refine ev_of (vc51 s _ ⟨fun h=>?_,fun h=>?_⟩)
 ·(simp only [decide_eq_true_eq,decide_eq_false_iff_not,Bool.not_eq_true',Bool.not_eq_false'] at h)
  refine ⟨tvB ?_,rfl⟩
  rw [actO,decide_eq_false (by omega)];rfl
 ·(simp only [decide_eq_true_eq,decide_eq_false_iff_not,Bool.not_eq_true',Bool.not_eq_false'] at h)
  have hl:s.length≤200:=by omega
  have hT:∀ c∈[123]++s++[125],0≤c∧c<256:=by
   intro c hc
   simp only [List.mem_append,List.mem_singleton] at hc
   rcases hc with (rfl | hc) | rfl
   ·decide
   ·exact hs c hc
   ·decide
  have hlen:([123]++s++[125]).length=s.length+2:=by simp
  have lx:=lex_ev ([123]++s++[125]) (by omega) hT
  have eT:([123]++s++[125]:List Int)=123::(s++[125]):=by simp
  have h0:([123]++s++[125]:List Int)≠[]:=by simp
  have tk:tokK ([123]++s++[125])=tokOf 9 (actL (123::(s++[125])) 1 1 (s++[125])):=by
   rw [eT,tok123,L.actK,actL,if_pos rfl,if_neg (by decide)];rfl
  have hR:actO s=openK 1 s:=by rw [actO,decide_eq_true hl,Bool.true_and]
  rw [hR]
  refine ⟨⟨by unfold bigN;omega⟩,⟨by rw [List.length_append,List.length_singleton];unfold bigN;omega⟩,?_⟩
  rw [hlen] at lx
  cases ho:openK 1 s with
  | true =>
   have:=act_tok s hl [] s 0 1 (by omega) (by decide) (by decide) ho
   rw [this] at tk
   have e:=lexS_last (f:=s.length+1) (k:=0) (r:=[123]++s++[125]) (kd:=9) (t:=s) (by rw [tk,hlen];rfl) h0
   rw [show s.length+2=s.length+1+1 from rfl,e] at lx
   refine ⟨_,_,_,_,⟨lx⟩,fun _=>⟨fun _=>⟨⟨by simp⟩,tvB (decide_eq_true rfl),rfl⟩,fun q=>?_⟩,fun q=>?_⟩
   ·exact absurd q (by simp [markOf])
   ·exact absurd q (by decide)
  | false =>
   have hn:=act_not s s 0 1 (by omega) (by decide) (by decide) ho
   rw [show s.length+2=s.length+1+1 from rfl] at lx
   cases ha:actL (123::(s++[125])) 1 1 (s++[125]) with
   | error q =>
    obtain ⟨c,d⟩:=q
    rw [ha] at tk
    have e:=lexS_err (f:=s.length+1) (k:=0) tk h0
    rw [e] at lx
    have hc:c≠0:=act_code _ _ _ _ ha
    exact ⟨_,_,_,_,⟨lx⟩,fun q=>absurd q (by simpa using hc),fun _=>⟨rfl,rfl⟩⟩
   | ok q =>
    obtain ⟨t,m⟩:=q
    have hlt:=hn t m ha
    rw [ha] at tk
    have e:=lexS_ok (f:=s.length+1) (k:=0) tk h0
    rw [e] at lx
    cases hL:lexS (s.length+1) (0+m) (([123]++s++[125]).drop m) with
    | error q =>
     obtain ⟨c,d⟩:=q
     rw [hL] at lx
     have hc:c≠0:=lexS_code _ _ _ hL
     exact ⟨_,_,_,_,⟨lx⟩,fun q=>absurd q (by simpa using hc),fun _=>⟨rfl,rfl⟩⟩
    | ok l =>
     rw [hL] at lx
     refine ⟨_,_,_,_,⟨lx⟩,fun _=>⟨fun _=>⟨⟨by simp [glue];omega⟩,tvB (decide_eq_false fun q=>?_),rfl⟩,fun _=>⟨rfl,rfl⟩⟩,fun q=>absurd q (by decide)⟩
     have:t=s:=q
     rw [this] at hlt;omega
end Go.Am.D
