/-
  A part of the proof of a law: see the text that states it.
-/
import Derived.Test.YtcggbplapaeedaaDoorY
import Derived.Test.YtcggbplapaeedaaDoorVcH
import Derived.Test.YtcggbplapaeedaaDoorLM
import Derived.Test.YtcggbplapaeedaaDoorVcI
import Derived.Test.YtcggbplapaeedaaDoorVcJ
set_option linter.all false
namespace Go.Am.R
open Go Go.Am.Pr Go.Am.R.L
set_option maxRecDepth 100000
abbrev tB:Ty:=.pair .wref qt6
abbrev hB (b:List Int):Heap:=[((0,0),⟨⟨tB,((some (0,0):Option Key),(b,()))⟩,[[1]]⟩)]
abbrev tB2:Ty:=.pair tB .unit
abbrev hB2 (b:List Int):Heap:=[((0,0),⟨⟨tB2,(((some (0,0):Option Key),(b,())),())⟩,[[0,1]]⟩)]
abbrev sv (s:List Int):AV:=.tv [] .str s
section
variable (b s:List Int) (c:Int)
theorem cc_ev:E 79 [.op (0,0) []] (hB b) (.tup []) (hB b):=ev_of (vc79 b _ ⟨⟨by unfold bigN;omega⟩,rfl,rfl⟩)
theorem cc2_ev:E 79 [.op (0,0) [0]] (hB2 b) (.tup []) (hB2 b):=ev_of (vc79002 b _ ⟨⟨by unfold bigN;omega⟩,rfl,rfl⟩)
theorem str_ev (hb:b.length≤bigN):E 34 [.op (0,0) []] (hB b) (sv b) [((0,0),⟨⟨tB,((some (0,0):Option Key),(b,()))⟩,[]⟩)]:=ev_of (vc34 b _ ⟨⟨hb⟩,rfl,rfl⟩)
theorem str2_ev (hb:b.length≤bigN):E 34 [.op (0,0) [0]] (hB2 b) (sv b) [((0,0),⟨⟨tB2,(((some (0,0):Option Key),(b,())),())⟩,[]⟩)]:=ev_of (vc34002 b _ ⟨⟨hb⟩,rfl,rfl⟩)
theorem len2_ev:E 33 [.op (0,0) [0]] (hB2 b) (iv (b.length:Int)) (hB2 b):=ev_of (vc33002 b _ ⟨rfl,rfl⟩)
theorem ws_ev (hb:b.length+s.length≤bigN):E 54 [.op (0,0) [],sv s] (hB b) (.tup [iv (s.length:Int),.any]) (hB (b++s)):=ev_of (vc54 s b _ ⟨b,⟨cc_ev b⟩,⟨hb⟩,rfl,rfl⟩)
theorem ws2_ev (hb:b.length+s.length≤bigN):E 54 [.op (0,0) [0],sv s] (hB2 b) (.tup [iv (s.length:Int),.any]) (hB2 (b++s)):=ev_of (vc54002 b s _ ⟨b,⟨cc2_ev b⟩,⟨hb⟩,rfl,rfl⟩)
theorem wb_ev (hb:b.length+1≤bigN):E 55 [.op (0,0) [],.tv [] (.int .u8) c] (hB b) .any (hB (b++[c])):=ev_of (vc55 c b _ ⟨b,⟨cc_ev b⟩,⟨hb⟩,rfl,rfl⟩)
theorem wb2_ev (hb:b.length+1≤bigN):E 55 [.op (0,0) [0],.tv [] (.int .u8) c] (hB2 b) .any (hB2 (b++[c])):=ev_of (vc55002 b c _ ⟨b,⟨cc2_ev b⟩,⟨hb⟩,rfl,rfl⟩)
end
abbrev joinL (sep:List Int) (l:List qT0):List Int:=List.intercalate sep l
theorem join_ev (l:List qT0) (sep:List Int) (h1:l.length≤bigN) (h2:(joinL sep l).length≤140737488355328):E 44 [.tv [] qt10 l,.tv [] .str sep] [] (sv (joinL sep l)) [] :=
 ev_prim (g:=joinPrim) [] rfl (by show (if _ then _ else _)=_;rw [if_pos ⟨h1,h2⟩])
theorem line_ev (l:List qT0) (b:List Int) (h1:l.length≤1000000) (h2:(joinL [32] l).length≤100000000) (hb:b.length≤100000000):E 32 [.op (0,0) [],.tv [] qt10 l] (hB2 b) (.tup []) (hB2 (b++joinL [32] l++[10])):=by
 refine ev_of (vc32 l b _ ⟨_,⟨join_ev l [32] (by unfold bigN;omega) (by omega)⟩,_,_,⟨ws2_ev b _ (by unfold bigN;omega)⟩,_,⟨wb2_ev _ 10 ?_⟩,rfl,rfl⟩)
 rw [List.length_append];unfold bigN;omega
theorem escB_len (which:List Int) (c:Int):1≤(escB which c).length∧(escB which c).length≤2:=by
 unfold escB
 split
 ·exact ⟨by decide,by decide⟩
 ·split
  ·exact ⟨by decide,by decide⟩
  ·split
   ·exact ⟨by simp,by simp⟩
   ·exact ⟨by simp,by simp⟩
theorem escT_len (which:List Int):∀ s:List Int,(escT which s).length≤2 * s.length
 | []=>by simp [escT]
 | c::s=>by
  have e:escT which (c::s)=escB which c++escT which s:=rfl
  have:=escB_len which c
  have:=escT_len which s
  rw [e,List.length_append,List.length_cons];omega
theorem escT_cons (which:List Int) (c:Int) (s:List Int):escT which (c::s)=escB which c++escT which s:=rfl
theorem escaped_ev (s which:List Int) (hs:s.length≤1000000):E 45 [sv s,sv which] [] (sv (escT which s)) []:=by
 refine ev_of (vc45 s which _ ?_)
 refine ⟨fun z b=>∃ k:Nat,z=k∧k≤s.length∧b.length≤2 * k∧b++escT which (s.drop k)=escT which s,fun z _=>((s.length:Int)-z).toNat,⟨0,rfl,by omega,by simp,by simp⟩,?_⟩
 rintro z b ⟨k,rfl,hk,hbl,hv⟩
 refine ⟨fun h=>?_,fun h=>?_⟩
 ·(simp only [decide_eq_true_eq,decide_eq_false_iff_not,Bool.not_eq_true',Bool.not_eq_false'] at h)
  have hk':k<s.length:=by omega
  have hd:s.drop k=s.getD k 0::s.drop (k+1):=drop_cons (0:Int) hk'
  rw [hd,escT_cons] at hv
  simp only [Int.toNat_natCast]
  have hc:((k:Int)+(1:Int))=((k+1:Nat):Int):=by omega
  refine ⟨⟨by omega⟩,fun h2=>?_,fun h2=>?_⟩
  ·(simp only [decide_eq_true_eq,decide_eq_false_iff_not,Bool.not_eq_true',Bool.not_eq_false'] at h2)
   have e:escB which (s.getD k 0)=[92,110]:=by unfold escB;rw [if_pos h2]
   rw [e] at hv
   refine ⟨_,_,⟨ws_ev b [92,110] (by rw [show ([92,110]:List Int).length=2 from rfl];unfold bigN;omega)⟩,⟨by omega⟩,⟨k+1,hc,by omega,by rw [List.length_append,show ([92,110]:List Int).length=2 from rfl];omega,by rw [List.append_assoc];exact hv⟩,⟨by omega⟩⟩
  (simp only [decide_eq_true_eq,decide_eq_false_iff_not,Bool.not_eq_true',Bool.not_eq_false'] at h2)
  refine ⟨fun h3=>?_,fun h3=>?_⟩
  ·(simp only [decide_eq_true_eq,decide_eq_false_iff_not,Bool.not_eq_true',Bool.not_eq_false'] at h3)
   have e:escB which (s.getD k 0)=[92,116]:=by unfold escB;rw [if_neg h2,if_pos h3]
   rw [e] at hv
   refine ⟨_,_,⟨ws_ev b [92,116] (by rw [show ([92,116]:List Int).length=2 from rfl];unfold bigN;omega)⟩,⟨by omega⟩,⟨k+1,hc,by omega,by rw [List.length_append,show ([92,116]:List Int).length=2 from rfl];omega,by rw [List.append_assoc];exact hv⟩,⟨by omega⟩⟩
  (simp only [decide_eq_true_eq,decide_eq_false_iff_not,Bool.not_eq_true',Bool.not_eq_false'] at h3)
  refine ⟨_,⟨idx_ev which _⟩,fun h4=>?_,fun h4=>?_⟩
  ·(simp only [decide_eq_true_eq,decide_eq_false_iff_not,Bool.not_eq_true',Bool.not_eq_false'] at h4)
   have e:escB which (s.getD k 0)=[92,s.getD k 0]:=by unfold escB;rw [if_neg h2,if_neg h3,if_pos h4]
   rw [e] at hv
   refine ⟨_,⟨wb_ev b 92 (by unfold bigN;omega)⟩,_,⟨wb_ev _ _ (by rw [List.length_append,List.length_singleton];unfold bigN;omega)⟩,⟨by omega⟩,⟨k+1,hc,by omega,by rw [List.length_append,List.length_append,List.length_singleton,List.length_singleton];omega,by rw [List.append_assoc,List.append_assoc];exact hv⟩,⟨by omega⟩⟩
  ·(simp only [decide_eq_true_eq,decide_eq_false_iff_not,Bool.not_eq_true',Bool.not_eq_false'] at h4)
   have e:escB which (s.getD k 0)=[s.getD k 0]:=by unfold escB;rw [if_neg h2,if_neg h3,if_neg (by omega)]
   rw [e] at hv
   refine ⟨_,⟨wb_ev b _ (by unfold bigN;omega)⟩,⟨by omega⟩,⟨k+1,hc,by omega,by rw [List.length_append,List.length_singleton];omega,by rw [List.append_assoc];exact hv⟩,⟨by omega⟩⟩
 ·(simp only [decide_eq_true_eq,decide_eq_false_iff_not,Bool.not_eq_true',Bool.not_eq_false'] at h)
  have hk':k=s.length:=by omega
  subst hk'
  rw [List.drop_length] at hv
  have hv':b=escT which s:=by rw [← hv];simp [escT]
  refine ⟨_,_,⟨str_ev b (by unfold bigN;omega)⟩,?_⟩
  rw [hv'];exact ⟨rfl,rfl⟩
def cT:List Int:=[92,93,45]
def patT (p:Pat):List Int:=if p.1≠[] then [34]++escT qT p.1++[34] else if p.2.2.1=true then [91]++escT cT p.2.1++[93]++[43] else [91]++escT cT p.2.1++[93]
theorem patT_len (p:Pat):(patT p).length≤2 * p.1.length+2 * p.2.1.length+3:=by
 have h1:=escT_len qT p.1
 have h2:=escT_len cT p.2.1
 unfold patT
 split
 ·simp;omega
 ·split <;> (simp;omega)
theorem Pattern_ev (p:Pat) (h1:p.1.length≤10000) (h2:p.2.1.length≤10000):E 25 [.tv [] tPat p] [] (sv (patT p)) []:=by
 obtain ⟨t,s,m,⟨⟩⟩:=p
 dsimp only at h1 h2
 have l1:=escT_len qT t
 have l2:=escT_len cT s
 refine ev_of (vc25 t s m _ ⟨fun h=>?_,fun h=>?_⟩)
 ·simp only [Bool.not_eq_true',decide_eq_false_iff_not] at h
  refine ⟨_,⟨escaped_ev t qT (by omega)⟩,⟨by unfold bigN;omega⟩,⟨by rw [List.length_append,List.length_singleton];unfold bigN;omega⟩,?_⟩
  rw [patT,if_pos h];exact ⟨rfl,rfl⟩
 ·simp only [Bool.not_eq_false',decide_eq_true_eq] at h
  refine ⟨_,⟨escaped_ev s cT (by omega)⟩,⟨by unfold bigN;omega⟩,⟨by rw [List.length_append,List.length_singleton];unfold bigN;omega⟩,fun hm=>⟨⟨by rw [List.length_append,List.length_append,List.length_singleton,List.length_singleton];unfold bigN;omega⟩,?_⟩,fun hm=>?_⟩
  ·rw [patT,if_neg (fun q=>q h),if_pos hm];exact ⟨rfl,rfl⟩
  ·rw [patT,if_neg (fun q=>q h),if_neg (by rw [show (t,s,m,()).2.2.1=m from rfl,hm];decide)];exact ⟨rfl,rfl⟩
end Go.Am.R
namespace Go.Am.R
open Go Go.Am.Pr Go.Am.R.L
set_option maxRecDepth 100000
def nameO (s:List Int):Bool:=decide (s.length≤32)&&nameK s
theorem nameO_ev (s:List Int):E 42 [sv s] [] (bv (nameO s)) []:=by
 refine ev_of (vc42 s _ ⟨fun h=>?_,fun h=>?_⟩)
 ·(simp only [decide_eq_true_eq,decide_eq_false_iff_not,Bool.not_eq_true',Bool.not_eq_false'] at h)
  refine ⟨_,⟨name_ev s (by omega)⟩,tvB ?_,rfl⟩
  rw [nameO,decide_eq_true (by omega),Bool.true_and]
 ·(simp only [decide_eq_true_eq,decide_eq_false_iff_not,Bool.not_eq_true',Bool.not_eq_false'] at h)
  refine ⟨tvB ?_,rfl⟩
  rw [nameO,decide_eq_false (by omega),Bool.false_and]
def rise:List Int→Bool
 | a::b::r=>if b≤a then false else rise (b::r)
 | _=>true
def patO (p:Pat):Bool:=if p.1≠[] then decide (p.1.length≤32)&&decide (p.2.1=[])&&!p.2.2.1 else rise p.2.1&&!decide (p.2.1=[])
theorem rise_cons {s:List Int} {k:Nat} (hk:k+1<s.length):rise (s.drop k)=if s.getD (k+1) 0≤s.getD k 0 then false else rise (s.drop (k+1)):=by
 rw [drop_cons (0:Int) (show k<s.length by omega),drop_cons (0:Int) hk,rise]
theorem patO_ev (p:Pat) (hl:p.2.1.length≤1000000):E 38 [.tv [] tPat p] [] (bv (patO p)) []:=by
 obtain ⟨t,s,m,⟨⟩⟩:=p
 dsimp only at hl
 refine ev_of (vc38 t s m _ ⟨fun h=>?_,fun h=>?_⟩)
 ·simp only [Bool.not_eq_true',decide_eq_false_iff_not] at h
  rw [patO,if_pos h]
  refine ⟨fun h1=>⟨fun h2=>⟨tvB ?_,rfl⟩,fun h2=>⟨tvB ?_,rfl⟩⟩,fun h1=>⟨tvB ?_,rfl⟩⟩
  ·(simp only [decide_eq_true_eq,decide_eq_false_iff_not,Bool.not_eq_true',Bool.not_eq_false'] at h1 h2)
   rw [decide_eq_true (show t.length≤32 by omega),decide_eq_true h2];rfl
  ·(simp only [decide_eq_true_eq,decide_eq_false_iff_not,Bool.not_eq_true',Bool.not_eq_false'] at h1 h2)
   rw [decide_eq_false h2,Bool.and_false];rfl
  ·(simp only [decide_eq_true_eq,decide_eq_false_iff_not,Bool.not_eq_true',Bool.not_eq_false'] at h1)
   rw [decide_eq_false (show ¬ t.length≤32 by omega)];rfl
 ·simp only [Bool.not_eq_false',decide_eq_true_eq] at h
  rw [patO,if_neg (fun q=>q h)]
  refine ⟨fun z=>∃ k:Nat,z=((k+1:Nat):Int)∧k≤s.length∧rise (s.drop k)=rise s,fun z=>((s.length:Int)-z).toNat,⟨0,rfl,by omega,rfl⟩,?_⟩
  rintro z ⟨k,rfl,hk,hv⟩
  refine ⟨fun h1=>?_,fun h1=>?_⟩
  ·(simp only [decide_eq_true_eq,decide_eq_false_iff_not,Bool.not_eq_true',Bool.not_eq_false'] at h1)
   have e1:(((k+1:Nat):Int)-1).toNat=k:=by omega
   rw [e1,Int.toNat_natCast]
   rw [rise_cons (by omega)] at hv
   refine ⟨⟨by omega⟩,⟨by omega⟩,⟨by omega⟩,fun h2=>⟨tvB ?_,rfl⟩,fun h2=>⟨⟨by omega⟩,⟨k+1,by omega,by omega,?_⟩,⟨by ((try dsimp only);omega)⟩⟩⟩
   ·(simp only [decide_eq_true_eq,decide_eq_false_iff_not,Bool.not_eq_true',Bool.not_eq_false'] at h2)
    rw [if_pos h2] at hv
    rw [← hv];rfl
   ·(simp only [decide_eq_true_eq,decide_eq_false_iff_not,Bool.not_eq_true',Bool.not_eq_false'] at h2)
    rw [if_neg h2] at hv;exact hv
  ·(simp only [decide_eq_true_eq,decide_eq_false_iff_not,Bool.not_eq_true',Bool.not_eq_false'] at h1)
   have e:rise (s.drop k)=true:=by
    have hd:(s.drop k).length≤1:=by rw [List.length_drop];omega
    match s.drop k,hd with
    | [],_=>rfl
    | [a],_=>rfl
   rw [e] at hv
   refine ⟨tvB ?_,rfl⟩
   rw [← hv,Bool.true_and]
def openK:Int→List Int→Bool
 | d,[]=>decide (d=1)
 | d,c::r=>let e:=if c=123 then d+1 else if c=125 then d-1 else d;if 4<e∨e=0 then false else openK e r
def actO (s:List Int):Bool:=decide (s.length≤200)&&openK 1 s
theorem act_tok (s:List Int) (hs:s.length≤200) (x:List Int):∀ (r:List Int) (j:Nat) (d:Int),j+r.length=s.length→1≤d→d≤4→openK d r=true→actL (123::(s++125::x)) d (j+1) (r++125::x)=.ok (s,s.length+2)
 | [],j,d,hj,h1,h2,h=>by
  simp only [openK,decide_eq_true_eq] at h
  simp only [List.length_nil] at hj
  rw [List.nil_append,actL,if_neg (by decide),if_pos rfl,if_neg (by omega),if_neg (by omega)]
  have:((123::(s++125::x)).take (j+1)).drop 1=s:=by
   rw [List.take_succ_cons];show (s++125::x).take j=s
   rw [show j=s.length by omega,List.take_left]
  rw [this];congr 2;omega
 | c::r,j,d,hj,h1,h2,h=>by
  simp only [List.length_cons] at hj
  rw [openK] at h
  rw [List.cons_append,actL]
  by_cases hc:c=123
  ·rw [if_pos hc] at h ⊢
   rw [if_neg (by intro q;rw [if_pos (.inl q)] at h;cases h)]
   have h':¬ (4<d+1∨d+1=0):=by intro q;rw [if_pos q] at h;cases h
   rw [if_neg h'] at h
   exact act_tok s hs x r (j+1) (d+1) (by omega) (by omega) (by omega) h
  rw [if_neg hc] at h ⊢
  by_cases hc2:c=125
  ·rw [if_pos hc2] at h ⊢
   have h':¬ (4<d-1∨d-1=0):=by intro q;rw [if_pos q] at h;cases h
   rw [if_neg h'] at h
   rw [if_pos (by omega)]
   exact act_tok s hs x r (j+1) (d-1) (by omega) (by omega) (by omega) h
  ·rw [if_neg hc2] at h ⊢
   rw [if_neg (by omega)] at h
   exact act_tok s hs x r (j+1) d (by omega) h1 h2 h
theorem act_not (s:List Int):∀ (r:List Int) (j:Nat) (d:Int),j+r.length=s.length→1≤d→d≤4→openK d r=false→∀ t m,actL (123::(s++[125])) d (j+1) (r++[125])=.ok (t,m)→t.length<s.length
 | [],j,d,hj,h1,h2,h,t,m,e=>by
  simp only [openK,decide_eq_false_iff_not] at h
  rw [List.nil_append,actL,if_neg (by decide),if_pos rfl,if_pos (by omega),actL] at e
  cases e
 | c::r,j,d,hj,h1,h2,h,t,m,e=>by
  simp only [List.length_cons] at hj
  rw [openK] at h
  rw [List.cons_append,actL] at e
  by_cases hc:c=123
  ·rw [if_pos hc] at h e
   by_cases h4:4<d+1
   ·rw [if_pos h4] at e;cases e
   ·rw [if_neg h4] at e
    rw [if_neg (by omega)] at h
    exact act_not s r (j+1) (d+1) (by omega) (by omega) (by omega) h t m e
  rw [if_neg hc] at h e
  by_cases hc2:c=125
  ·rw [if_pos hc2] at h e
   by_cases h4:0<d-1
   ·rw [if_pos h4] at e
    rw [if_neg (by omega)] at h
    exact act_not s r (j+1) (d-1) (by omega) (by omega) (by omega) h t m e
   ·rw [if_neg h4] at e
    split at e
    ·cases e
    ·cases e
     rw [List.length_drop,List.length_take];omega
  ·rw [if_neg hc2] at h e
   rw [if_neg (by omega)] at h
   exact act_not s r (j+1) d (by omega) h1 h2 h t m e
theorem tk_action {s:List Int} (h:actO s=true):Tok ([123]++s++[125]) 9 s true Any:=by
 simp only [actO,Bool.and_eq_true,decide_eq_true_eq] at h
 refine ⟨by simp,fun x _=>?_⟩
 have e:[123]++s++[125]++x=123::(s++125::x):=by simp
 rw [e,tok123,L.actK,actL,if_pos rfl,if_neg (by decide)]
 show tokOf 9 (actL _ 1 1 _)=_
 rw [act_tok s h.1 x s 0 1 (by omega) (by decide) (by decide) h.2]
 simp [tokOf]
theorem action_evR (s:List Int) (hs:∀ c∈s,0≤c∧c<256):E 58 [sv s] [] (bv (actO s)) []:=by
 refine ev_of (vc58 s _ ⟨fun h=>?_,fun h=>?_⟩)
 ·(simp only [decide_eq_true_eq,decide_eq_false_iff_not,Bool.not_eq_true',Bool.not_eq_false'] at h)
  refine ⟨tvB ?_,rfl⟩
  rw [actO,decide_eq_false (by omega)];rfl
 ·(simp only [decide_eq_true_eq,decide_eq_false_iff_not,Bool.not_eq_true',Bool.not_eq_false'] at h)
  have hl:s.length≤200:=by omega
  have hT:∀ c∈[123]++s++[125],0≤c∧c<256:=by
   intro c hc
   simp only [List.mem_append,List.mem_singleton] at hc
   rcases hc with (rfl | hc) | rfl
   ·decide
   ·exact hs c hc
   ·decide
  have hlen:([123]++s++[125]).length=s.length+2:=by simp
  have lx:=lex_ev ([123]++s++[125]) (by omega) hT
  have eT:([123]++s++[125]:List Int)=123::(s++[125]):=by simp
  have h0:([123]++s++[125]:List Int)≠[]:=by simp
  have tk:tokK ([123]++s++[125])=tokOf 9 (actL (123::(s++[125])) 1 1 (s++[125])):=by
   rw [eT,tok123,L.actK,actL,if_pos rfl,if_neg (by decide)];rfl
  have hR:actO s=openK 1 s:=by rw [actO,decide_eq_true hl,Bool.true_and]
  rw [hR]
  refine ⟨⟨by unfold bigN;omega⟩,⟨by rw [List.length_append,List.length_singleton];unfold bigN;omega⟩,?_⟩
  rw [hlen] at lx
  cases ho:openK 1 s with
  | true =>
   have:=act_tok s hl [] s 0 1 (by omega) (by decide) (by decide) ho
   rw [this] at tk
   have e:=lexS_last (f:=s.length+1) (k:=0) (r:=[123]++s++[125]) (kd:=9) (t:=s) (by rw [tk,hlen];rfl) h0
   rw [show s.length+2=s.length+1+1 from rfl,e] at lx
   refine ⟨_,_,_,_,⟨lx⟩,fun _=>⟨fun _=>⟨⟨by simp⟩,tvB (decide_eq_true rfl),rfl⟩,fun q=>?_⟩,fun q=>?_⟩
   ·exact absurd q (by simp [markOf])
   ·exact absurd q (by decide)
  | false =>
   have hn:=act_not s s 0 1 (by omega) (by decide) (by decide) ho
   rw [show s.length+2=s.length+1+1 from rfl] at lx
   cases ha:actL (123::(s++[125])) 1 1 (s++[125]) with
   | error q =>
    obtain ⟨c,d⟩:=q
    rw [ha] at tk
    have e:=lexS_err (f:=s.length+1) (k:=0) tk h0
    rw [e] at lx
    have hc:c≠0:=act_code _ _ _ _ ha
    exact ⟨_,_,_,_,⟨lx⟩,fun q=>absurd q (by simpa using hc),fun _=>⟨rfl,rfl⟩⟩
   | ok q =>
    obtain ⟨t,m⟩:=q
    have hlt:=hn t m ha
    rw [ha] at tk
    have e:=lexS_ok (f:=s.length+1) (k:=0) tk h0
    rw [e] at lx
    cases hL:lexS (s.length+1) (0+m) (([123]++s++[125]).drop m) with
    | error q =>
     obtain ⟨c,d⟩:=q
     rw [hL] at lx
     have hc:c≠0:=lexS_code _ _ _ hL
     exact ⟨_,_,_,_,⟨lx⟩,fun q=>absurd q (by simpa using hc),fun _=>⟨rfl,rfl⟩⟩
    | ok l =>
     rw [hL] at lx
     refine ⟨_,_,_,_,⟨lx⟩,fun _=>⟨fun _=>⟨⟨by simp [glue];omega⟩,tvB (decide_eq_false fun q=>?_),rfl⟩,fun _=>⟨rfl,rfl⟩⟩,fun q=>absurd q (by decide)⟩
     have:t=s:=q
     rw [this] at hlt;omega
end Go.Am.R
namespace Go.Am.R
open Go Go.Am.Pr Go.Am.R.L
set_option maxRecDepth 100000
def onceO (l:List qT0):Bool:=l.all nameO&&decide l.Nodup
theorem cut_zero {α:Type} (l:List α) (k:Nat):cut l 0 k=l.take k:=by unfold cut;rw [List.drop_zero]
theorem nodup_snoc {l:List qT0} {x:List Int}:(l++[x]).Nodup↔l.Nodup∧x ∉ l:=by
 rw [List.nodup_append]
 constructor
 ·rintro ⟨h1,_,h3⟩;exact ⟨h1,fun hx=>h3 x hx x (by simp) rfl⟩
 ·rintro ⟨h1,h2⟩
  refine ⟨h1,by simp,fun a ha b hb=>?_⟩
  rw [List.mem_singleton] at hb
  subst hb
  rintro rfl;exact h2 ha
theorem all_take_false {α:Type} {p:α→Bool} {l:List α} {k:Nat} {d:α} (hk:k<l.length) (h:p (l.getD k d)=false):l.all p=false:=by
 cases ha:l.all p with
 | false=>rfl
 | true =>
  rw [List.all_eq_true] at ha
  have:=ha _ (getD_mem' d l _ hk)
  rw [h] at this;cases this
theorem all_snoc {α:Type} (p:α→Bool) (l:List α) (x:α):(l++[x]).all p=(l.all p&&p x):=by rw [List.all_append];simp
theorem once_ev (l:List qT0) (hl:l.length≤1000000):E 59 [.tv [] qt10 l] [] (bv (onceO l)) []:=by
 refine ev_of (vc59 l _ ?_)
 refine ⟨fun z=>∃ k:Nat,z=k∧k≤l.length∧onceO (l.take k)=true,fun z=>((l.length:Int)-z).toNat,⟨0,rfl,by omega,rfl⟩,?_⟩
 rintro z ⟨k,rfl,hk,hv⟩
 unfold onceO at hv
 simp only [Bool.and_eq_true,decide_eq_true_eq] at hv
 refine ⟨fun h=>?_,fun h=>?_⟩
 ·(simp only [decide_eq_true_eq,decide_eq_false_iff_not,Bool.not_eq_true',Bool.not_eq_false'] at h)
  have hk':k<l.length:=by omega
  rw [Int.toNat_natCast]
  refine ⟨⟨by omega⟩,_,⟨nameO_ev _⟩,fun h2=>⟨tvB ?_,rfl⟩,fun h2=>⟨⟨by omega⟩,decide (l.getD k []∈l.take k),⟨?_⟩,fun h3=>⟨tvB ?_,rfl⟩,fun h3=>⟨⟨by omega⟩,⟨k+1,by omega,by omega,?_⟩,⟨by ((try dsimp only);omega)⟩⟩⟩⟩
  ·(simp only [decide_eq_true_eq,decide_eq_false_iff_not,Bool.not_eq_true',Bool.not_eq_false'] at h2)
   rw [onceO,all_take_false hk' h2];rfl
  ·rw [cut_zero]
   exact contains_ev (l.take k) _ (by rw [List.length_take];omega)
  ·(simp only [decide_eq_true_eq,decide_eq_false_iff_not,Bool.not_eq_true',Bool.not_eq_false'] at h3)
   rw [onceO,decide_eq_false (fun q=>?_),Bool.and_false]
   have q2:(l.take (k+1)).Nodup:=List.Nodup.sublist (List.take_sublist _ _) q
   rw [take_snoc ([]:List Int) hk',nodup_snoc] at q2
   exact q2.2 h3
  ·(simp only [decide_eq_true_eq,decide_eq_false_iff_not,Bool.not_eq_true',Bool.not_eq_false'] at h2 h3)
   rw [onceO,take_snoc ([]:List Int) hk',all_snoc,hv.1,h2,decide_eq_true (nodup_snoc.2 ⟨hv.2,h3⟩)];rfl
 ·(simp only [decide_eq_true_eq,decide_eq_false_iff_not,Bool.not_eq_true',Bool.not_eq_false'] at h)
  rw [List.take_of_length_le (by omega)] at hv
  refine ⟨tvB ?_,rfl⟩
  rw [onceO,hv.1,decide_eq_true hv.2];rfl
def tokO (l:List Tk):Bool:=l.all (fun t=>patO t.2.1)&&(decide (l.length≤20)&&onceO (l.map (·.1)))
abbrev tk0:Tk:=(([]:List Int),(([],([],(false,()))),()))
theorem tokO_ev (l:List Tk) (hl:l.length≤1000000) (hp:∀ t∈l,t.2.1.2.1.length≤1000000):E 39 [.tv [] (.slice tTk) l] [] (bv (tokO l)) []:=by
  refine ev_of (vc39 l _ ?_)
  refine ⟨fun ns z=>∃ k:Nat,z=k∧k≤l.length∧ns=(l.take k).map (·.1)∧(l.take k).all (fun t=>patO t.2.1)=true,fun _ z=>((l.length:Int)-z).toNat,⟨0,rfl,by omega,rfl,rfl⟩,?_⟩
  rintro ns z ⟨k,rfl,hk,rfl,hv⟩
  have hlen:((l.take k).map (·.1)).length=k:=by rw [List.length_map,List.length_take];omega
  refine ⟨fun h=>?_,fun h=>?_⟩
  · (simp only [decide_eq_true_eq,decide_eq_false_iff_not,Bool.not_eq_true',Bool.not_eq_false'] at h)
    have hk':k<l.length:=by omega
    rw [Int.toNat_natCast]
    refine ⟨⟨by omega⟩,_,⟨patO_ev _ (hp _ (getD_mem' _ l _ hk'))⟩,fun h2=>⟨tvB ?_,rfl⟩,fun h2=>⟨⟨by rw [hlen,List.length_singleton];unfold bigN;omega⟩,⟨by omega⟩,⟨k+1,by omega,by omega,?_,?_⟩,⟨by ((try dsimp only);omega)⟩⟩⟩
    · (simp only [decide_eq_true_eq,decide_eq_false_iff_not,Bool.not_eq_true',Bool.not_eq_false'] at h2)
      rw [tokO,all_take_false (d:=tk0) hk' h2];rfl
    · rw [take_snoc tk0 hk',List.map_append];rfl
    · (simp only [decide_eq_true_eq,decide_eq_false_iff_not,Bool.not_eq_true',Bool.not_eq_false'] at h2)
      rw [take_snoc tk0 hk',all_snoc,hv,h2];rfl
  · (simp only [decide_eq_true_eq,decide_eq_false_iff_not,Bool.not_eq_true',Bool.not_eq_false'] at h)
    have e:l.take k=l:=List.take_of_length_le (by omega)
    rw [e] at hv hlen ⊢
    refine ⟨fun h2=>⟨_,⟨once_ev _ (by rw [hlen];omega)⟩,tvB ?_,rfl⟩,fun h2=>⟨tvB ?_,rfl⟩⟩
    · (simp only [decide_eq_true_eq,decide_eq_false_iff_not,Bool.not_eq_true',Bool.not_eq_false'] at h2)
      rw [tokO,hv,decide_eq_true (show l.length≤20 by omega)];rfl
    · (simp only [decide_eq_true_eq,decide_eq_false_iff_not,Bool.not_eq_true',Bool.not_eq_false'] at h2)
      rw [tokO,hv,decide_eq_false (show ¬ l.length≤20 by omega)];rfl
def lvO1 (x:Lv):Bool:=decide (1≤x.1)&&decide (x.1≤3)&&!decide (x.2.1=[])
def lvO (l:List Lv):Bool:=l.all lvO1&&(decide (l.length≤10)&&onceO (l.flatMap (·.2.1)))
theorem lvO_ev (l:List Lv) (hl:l.length≤1000000) (hn:(l.flatMap (·.2.1)).length≤1000000):E 40 [.tv [] (.slice tLv) l] [] (bv (lvO l)) []:=by
  refine ev_of (vc40 l _ ?_)
  refine ⟨fun ns z=>∃ k:Nat,z=k∧k≤l.length∧ns=(l.take k).flatMap (·.2.1)∧(l.take k).all lvO1=true,fun _ z=>((l.length:Int)-z).toNat,⟨0,rfl,by omega,rfl,rfl⟩,?_⟩
  rintro ns z ⟨k,rfl,hk,rfl,hv⟩
  have hlen:∀ j,((l.take j).flatMap (·.2.1)).length≤1000000:=by
    intro j
    have:(l.flatMap (·.2.1)).length=((l.take j).flatMap (·.2.1)).length+((l.drop j).flatMap (·.2.1)).length:=by
      rw [← List.length_append,← List.flatMap_append,List.take_append_drop]
    omega
  refine ⟨fun h=>?_,fun h=>?_⟩
  · (simp only [decide_eq_true_eq,decide_eq_false_iff_not,Bool.not_eq_true',Bool.not_eq_false'] at h)
    have hk':k<l.length:=by omega
    rw [Int.toNat_natCast]
    have hs:=hlen (k+1)
    rw [take_snoc ((0:Int),(([]:List qT0),())) hk',List.flatMap_append,List.length_append] at hs
    have hs2:([l.getD k ((0:Int),(([]:List qT0),()))].flatMap (·.2.1)).length=(l.getD k ((0:Int),(([]:List qT0),()))).2.1.length:=by simp
    rw [hs2] at hs
    refine ⟨⟨by omega⟩,fun h2=>⟨tvB ?_,rfl⟩,fun h2=>⟨fun h3=>⟨tvB ?_,rfl⟩,fun h3=>⟨fun h4=>⟨tvB ?_,rfl⟩,fun h4=>⟨⟨by unfold bigN;omega⟩,⟨by omega⟩,⟨k+1,by omega,by omega,?_,?_⟩,⟨by ((try dsimp only);omega)⟩⟩⟩⟩⟩
    · (simp only [decide_eq_true_eq,decide_eq_false_iff_not,Bool.not_eq_true',Bool.not_eq_false'] at h2)
      rw [lvO,all_take_false (d:=((0:Int),(([]:List qT0),()))) (p:=lvO1) hk' (by rw [lvO1,decide_eq_false (by omega)];rfl)];rfl
    · (simp only [decide_eq_true_eq,decide_eq_false_iff_not,Bool.not_eq_true',Bool.not_eq_false'] at h3)
      rw [lvO,all_take_false (d:=((0:Int),(([]:List qT0),()))) (p:=lvO1) hk' (by rw [lvO1,decide_eq_false (p:=_≤3) (by omega),Bool.and_false];rfl)];rfl
    · (simp only [decide_eq_true_eq,decide_eq_false_iff_not,Bool.not_eq_true',Bool.not_eq_false'] at h4)
      have h5:(l.getD k ((0:Int),(([]:List qT0),()))).2.1=[]:=List.length_eq_zero_iff.1 (by omega)
      rw [lvO,all_take_false (d:=((0:Int),(([]:List qT0),()))) (p:=lvO1) hk' (by rw [lvO1,h5];simp)];rfl
    · rw [take_snoc ((0:Int),(([]:List qT0),())) hk',List.flatMap_append]
      congr 1
      simp
    · (simp only [decide_eq_true_eq,decide_eq_false_iff_not,Bool.not_eq_true',Bool.not_eq_false'] at h2 h3 h4)
      have h5:(l.getD k ((0:Int),(([]:List qT0),()))).2.1≠[]:=fun q=>h4 (by rw [q];rfl)
      rw [take_snoc ((0:Int),(([]:List qT0),())) hk',all_snoc,hv,lvO1,decide_eq_true (by omega),decide_eq_true (p:=_≤3) (by omega),decide_eq_false h5];rfl
  · (simp only [decide_eq_true_eq,decide_eq_false_iff_not,Bool.not_eq_true',Bool.not_eq_false'] at h)
    have e:l.take k=l:=List.take_of_length_le (by omega)
    rw [e] at hv ⊢
    refine ⟨fun h2=>⟨_,⟨once_ev _ hn⟩,tvB ?_,rfl⟩,fun h2=>⟨tvB ?_,rfl⟩⟩
    · (simp only [decide_eq_true_eq,decide_eq_false_iff_not,Bool.not_eq_true',Bool.not_eq_false'] at h2)
      rw [lvO,hv,decide_eq_true (show l.length≤10 by omega)];rfl
    · (simp only [decide_eq_true_eq,decide_eq_false_iff_not,Bool.not_eq_true',Bool.not_eq_false'] at h2)
      rw [lvO,hv,decide_eq_false (show ¬ l.length≤10 by omega)];rfl
theorem anyName_ev (l:List qT0) (hl:l.length≤1000000):E 57 [.tv [] qt10 l,.fn 56 [] []] [] (bv (!l.all nameO)) []:=by
 have ev:EvF PP orc 80 [.tv [] qt10 l,.fn 56 [] []] [] fun a h=>∃ i:Int,a=iv i∧h=[]∧decide (0≤i)=!l.all nameO:=by
  refine vc80 l _ ?_
  refine ⟨fun z=>∃ k:Nat,z=k∧k≤l.length∧(l.take k).all nameO=true,fun z=>((l.length:Int)-z).toNat,⟨0,rfl,by omega,rfl⟩,?_⟩
  rintro z ⟨k,rfl,hk,hv⟩
  refine ⟨fun h=>?_,fun h=>?_⟩
  ·(simp only [decide_eq_true_eq,decide_eq_false_iff_not,Bool.not_eq_true',Bool.not_eq_false'] at h)
   have hk':k<l.length:=by omega
   rw [Int.toNat_natCast]
   refine ⟨⟨by omega⟩,_,⟨ev_of (vc56 _ _ ⟨_,⟨nameO_ev _⟩,rfl,rfl⟩)⟩,fun h2=>⟨_,rfl,rfl,?_⟩,fun h2=>⟨⟨by omega⟩,⟨k+1,by omega,by omega,?_⟩,⟨by ((try dsimp only);omega)⟩⟩⟩
   ·(simp only [decide_eq_true_eq,decide_eq_false_iff_not,Bool.not_eq_true',Bool.not_eq_false'] at h2)
    rw [all_take_false hk' h2,decide_eq_true (by omega)];rfl
   ·(simp only [decide_eq_true_eq,decide_eq_false_iff_not,Bool.not_eq_true',Bool.not_eq_false'] at h2)
    rw [take_snoc ([]:List Int) hk',all_snoc,hv,h2];rfl
  ·(simp only [decide_eq_true_eq,decide_eq_false_iff_not,Bool.not_eq_true',Bool.not_eq_false'] at h)
   rw [List.take_of_length_le (by omega)] at hv
   exact ⟨_,rfl,rfl,by rw [hv];rfl⟩
 obtain ⟨a,h,e,i,rfl,rfl,hi⟩:=ev
 exact ev_of (vc57 l _ ⟨i,⟨e⟩,tvB hi,rfl⟩)
abbrev pt0:Pat:=([],([],(false,())))
theorem anyPat_ev (l:List Pat) (hl:l.length≤1000000) (hp:∀ p∈l,p.2.1.length≤1000000):E 41 [.tv [] (.slice tPat) l,.fn 37 [] []] [] (bv (!l.all patO)) []:=by
 have ev:EvF PP orc 60 [.tv [] (.slice tPat) l,.fn 37 [] []] [] fun a h=>∃ i:Int,a=iv i∧h=[]∧decide (0≤i)=!l.all patO:=by
  refine vc60 l _ ?_
  refine ⟨fun z=>∃ k:Nat,z=k∧k≤l.length∧(l.take k).all patO=true,fun z=>((l.length:Int)-z).toNat,⟨0,rfl,by omega,rfl⟩,?_⟩
  rintro z ⟨k,rfl,hk,hv⟩
  refine ⟨fun h=>?_,fun h=>?_⟩
  ·(simp only [decide_eq_true_eq,decide_eq_false_iff_not,Bool.not_eq_true',Bool.not_eq_false'] at h)
   have hk':k<l.length:=by omega
   rw [Int.toNat_natCast]
   refine ⟨⟨by omega⟩,_,⟨ev_of (vc37 _ _ _ _ ⟨_,⟨patO_ev (l.getD k pt0) (hp _ (getD_mem' _ l _ hk'))⟩,rfl,rfl⟩)⟩,fun h2=>⟨_,rfl,rfl,?_⟩,fun h2=>⟨⟨by omega⟩,⟨k+1,by omega,by omega,?_⟩,⟨by ((try dsimp only);omega)⟩⟩⟩
   ·(simp only [decide_eq_true_eq,decide_eq_false_iff_not,Bool.not_eq_true',Bool.not_eq_false'] at h2)
    rw [all_take_false (d:=pt0) hk' h2,decide_eq_true (by omega)];rfl
   ·(simp only [decide_eq_true_eq,decide_eq_false_iff_not,Bool.not_eq_true',Bool.not_eq_false'] at h2)
    rw [take_snoc pt0 hk',all_snoc,hv,h2];rfl
  ·(simp only [decide_eq_true_eq,decide_eq_false_iff_not,Bool.not_eq_true',Bool.not_eq_false'] at h)
   rw [List.take_of_length_le (by omega)] at hv
   exact ⟨_,rfl,rfl,by rw [hv];rfl⟩
 obtain ⟨a,h,e,i,rfl,rfl,hi⟩:=ev
 exact ev_of (vc41 l _ ⟨i,⟨e⟩,tvB hi,rfl⟩)
def rulO (r:Rl):Bool:=nameO r.1&&(decide (r.2.1.length≤8)&&(r.2.1.all nameO&&((decide (r.2.2.1=[])||nameO r.2.2.1)&&actO r.2.2.2.1)))
abbrev ActB (r:Rl):Prop:=∀ c∈r.2.2.2.1,0≤c∧c<256
theorem rulO_ev (r:Rl) (ha:ActB r):E 36 [.tv [] tRl r] [] (bv (rulO r)) []:=by
 obtain ⟨n,ns,p,a,⟨⟩⟩:=r
 refine ev_of (vc36 n ns p a _ ⟨_,⟨nameO_ev n⟩,fun h=>⟨fun h2=>?_,fun h2=>⟨tvB ?_,rfl⟩⟩,fun h=>⟨tvB ?_,rfl⟩⟩)
 ·(simp only [decide_eq_true_eq,decide_eq_false_iff_not,Bool.not_eq_true',Bool.not_eq_false'] at h2)
  have h2':ns.length≤8:=by omega
  refine ⟨_,⟨anyName_ev ns (by omega)⟩,fun h3=>⟨fun h4=>⟨_,⟨action_evR a ha⟩,tvB ?_,rfl⟩,fun h4=>⟨_,⟨nameO_ev p⟩,fun h5=>⟨_,⟨action_evR a ha⟩,tvB ?_,rfl⟩,fun h5=>⟨tvB ?_,rfl⟩⟩⟩,fun h3=>⟨tvB ?_,rfl⟩⟩
  all_goals (simp only [Bool.not_not] at h3;unfold rulO;dsimp only;rw [h,h3,decide_eq_true h2'])
  ·rw [h4];simp
  ·rw [h4,h5];simp
  ·rw [h4,h5];simp
  ·rfl
 ·(simp only [decide_eq_true_eq,decide_eq_false_iff_not,Bool.not_eq_true',Bool.not_eq_false'] at h2)
  unfold rulO;dsimp only;rw [h,decide_eq_false (p:=ns.length≤8) (by omega)];rfl
 ·unfold rulO;dsimp only;rw [h];rfl
abbrev rl0:Rl:=([],([],([],([],()))))
theorem anyRule_ev (l:List Rl) (hl:l.length≤1000000) (ha:∀ r∈l,ActB r):E 43 [.tv [] (.slice tRl) l,.fn 35 [] []] [] (bv (!l.all rulO)) []:=by
 have ev:EvF PP orc 62 [.tv [] (.slice tRl) l,.fn 35 [] []] [] fun a h=>∃ i:Int,a=iv i∧h=[]∧decide (0≤i)=!l.all rulO:=by
  refine vc62 l _ ?_
  refine ⟨fun z=>∃ k:Nat,z=k∧k≤l.length∧(l.take k).all rulO=true,fun z=>((l.length:Int)-z).toNat,⟨0,rfl,by omega,rfl⟩,?_⟩
  rintro z ⟨k,rfl,hk,hv⟩
  refine ⟨fun h=>?_,fun h=>?_⟩
  ·(simp only [decide_eq_true_eq,decide_eq_false_iff_not,Bool.not_eq_true',Bool.not_eq_false'] at h)
   have hk':k<l.length:=by omega
   rw [Int.toNat_natCast]
   refine ⟨⟨by omega⟩,_,⟨ev_of (vc35 _ _ _ _ _ ⟨_,⟨rulO_ev (l.getD k rl0) (ha _ (getD_mem' _ l _ hk'))⟩,rfl,rfl⟩)⟩,fun h2=>⟨_,rfl,rfl,?_⟩,fun h2=>⟨⟨by omega⟩,⟨k+1,by omega,by omega,?_⟩,⟨by ((try dsimp only);omega)⟩⟩⟩
   ·(simp only [decide_eq_true_eq,decide_eq_false_iff_not,Bool.not_eq_true',Bool.not_eq_false'] at h2)
    rw [all_take_false (d:=rl0) hk' h2,decide_eq_true (by omega)];rfl
   ·(simp only [decide_eq_true_eq,decide_eq_false_iff_not,Bool.not_eq_true',Bool.not_eq_false'] at h2)
    rw [take_snoc rl0 hk',all_snoc,hv,h2];rfl
  ·(simp only [decide_eq_true_eq,decide_eq_false_iff_not,Bool.not_eq_true',Bool.not_eq_false'] at h)
   rw [List.take_of_length_le (by omega)] at hv
   exact ⟨_,rfl,rfl,by rw [hv];rfl⟩
 obtain ⟨a,h,e,i,rfl,rfl,hi⟩:=ev
 exact ev_of (vc43 l _ ⟨i,⟨e⟩,tvB hi,rfl⟩)
def rightO (g:Gr):Bool:=tokO g.1&&(lvO g.2.2.1&&(decide (g.2.1.length≤4)&&(g.2.1.all patO&&(nameO g.2.2.2.1&&(decide (0<g.2.2.2.2.1.length)&&(decide (g.2.2.2.2.1.length≤40)&&g.2.2.2.2.1.all rulO))))))
structure Few (g:Gr):Prop where
  tk:g.1.length≤10000
  tks:∀ t∈g.1,t.1.length≤10000∧t.2.1.1.length≤10000∧t.2.1.2.1.length≤10000
  sk:g.2.1.length≤10000
  sks:∀ p∈g.2.1,p.1.length≤10000∧p.2.1.length≤10000
  lv:g.2.2.1.length≤10000
  lvn:(g.2.2.1.flatMap (·.2.1)).length≤10000
  rl:g.2.2.2.2.1.length≤10000
  rls:∀ r∈g.2.2.2.2.1,r.1.length≤10000∧r.2.1.length≤10000∧(∀ x∈r.2.1,x.length≤10000)∧r.2.2.1.length≤10000∧r.2.2.2.1.length≤10000
  act:∀ r∈g.2.2.2.2.1,ActB r
theorem right_ev (g:Gr) (hg:Few g):E 22 [.tv [] tGr g] [] (bv (rightO g)) []:=by
 obtain ⟨tk,sk,lv,st,rl,⟨⟩⟩:=g
 have f1:=hg.tk
 have f2:=hg.tks
 have f3:=hg.sk
 have f4:=hg.sks
 have f5:=hg.lv
 have f6:=hg.lvn
 have f7:=hg.rl
 have f8:=hg.act
 dsimp only at f1 f2 f3 f4 f5 f6 f7 f8
 have e1:=tokO_ev tk (by omega) (fun t ht=>by have:=f2 t ht;omega)
 have e2:=lvO_ev lv (by omega) (by omega)
 have e3:=anyPat_ev sk (by omega) (fun t ht=>by have:=f4 t ht;omega)
 have e4:=nameO_ev st
 have e5:=anyRule_ev rl (by omega) f8
 refine ev_of (vc22 tk sk lv st rl _ ⟨_,⟨e1⟩,fun h1=>⟨tvB ?_,rfl⟩,fun h1=>⟨_,⟨e2⟩,fun h2=>⟨tvB ?_,rfl⟩,fun h2=>⟨fun h3=>⟨tvB ?_,rfl⟩,fun h3=>⟨_,⟨e3⟩,fun h4=>⟨tvB ?_,rfl⟩,fun h4=>⟨_,⟨e4⟩,fun h5=>⟨fun h6=>⟨fun h7=>⟨_,⟨e5⟩,tvB ?_,rfl⟩,fun h7=>⟨tvB ?_,rfl⟩⟩,fun h6=>⟨tvB ?_,rfl⟩⟩,fun h5=>⟨tvB ?_,rfl⟩⟩⟩⟩⟩⟩)
 all_goals (unfold rightO;dsimp only;simp only [Bool.not_eq_true',Bool.not_eq_false',decide_eq_true_eq,decide_eq_false_iff_not] at *)
 ·rw [h1];rfl
 ·rw [h1,h2];rfl
 ·rw [h1,h2,decide_eq_false (p:=sk.length≤4) (by omega)];rfl
 ·rw [h1,h2,h4,Bool.false_and,Bool.and_false];rfl
 ·rw [h1,h2,decide_eq_true (p:=sk.length≤4) (by omega),h4,h5,decide_eq_true (p:=0<rl.length) (by omega),decide_eq_true (p:=rl.length≤40) (by omega),Bool.not_not];rfl
 ·rw [decide_eq_false (p:=rl.length≤40) (by omega)];simp
 ·rw [decide_eq_false (p:=0<rl.length) (by omega)];simp
 ·rw [h5];simp
end Go.Am.R
namespace Go.Am.R
open Go Go.Am.Pr Go.Am.R.L
set_option maxRecDepth 100000
theorem joinL_one (sep x:List Int):joinL sep [x]=x:=by simp [joinL,List.intercalate]
theorem joinL_cons (sep x y:List Int) (l:List qT0):joinL sep (x::y::l)=x++sep++joinL sep (y::l):=by
 simp [joinL,List.intercalate]
theorem joinL_le (B:Nat):∀ l:List qT0,(∀ x∈l,x.length≤B)→(joinL [32] l).length≤l.length * (B+1)
 | [],_=>Nat.zero_le _
 | [x],h=>by
  have:=h x (List.mem_cons_self ..)
  rw [joinL_one,List.length_singleton];omega
 | x::y::l,h=>by
  have h1:=h x (List.mem_cons_self ..)
  have h2:=joinL_le B (y::l) (fun a ha=>h a (List.mem_cons_of_mem _ ha))
  rw [joinL_cons,List.length_append,List.length_append,List.length_singleton]
  have e:(x::y::l).length * (B+1)=(y::l).length * (B+1)+(B+1):=by rw [List.length_cons,Nat.add_mul,Nat.one_mul]
  rw [e];omega
theorem flat_le {α:Type} (f:α→List Int) (B:Nat):∀ l:List α,(∀ x∈l,(f x).length≤B)→(l.flatMap f).length≤l.length * B
 | [],_=>Nat.zero_le _
 | x::l,h=>by
  have h1:=h x (List.mem_cons_self ..)
  have h2:=flat_le f B l (fun a ha=>h a (List.mem_cons_of_mem _ ha))
  rw [List.flatMap_cons,List.length_append,List.length_cons,Nat.add_mul,Nat.one_mul];omega
theorem flat_take_le {α:Type} (f:α→List Int) (B:Nat) (l:List α) (k:Nat) (h:∀ x∈l,(f x).length≤B):((l.take k).flatMap f).length≤l.length * B:=by
 refine Nat.le_trans (flat_le f B _ fun x hx=>h x (List.mem_of_mem_take hx)) (Nat.mul_le_mul_right B ?_)
 rw [List.length_take];omega
theorem flat_snoc {α:Type} (f:α→List Int) (d:α) {l:List α} {k:Nat} (hk:k<l.length):(l.take (k+1)).flatMap f=(l.take k).flatMap f++f (l.getD k d):=by
 rw [take_snoc d hk,List.flatMap_append];simp
def precW:List Int:=[37,112,114,101,99]
def partsT (r:Rl):List qT0:=(([r.1,[58]]++r.2.1)++(if r.2.2.1=[] then [] else [precW,r.2.2.1]))++((if r.2.2.2.1=[] then [] else [[123]++r.2.2.2.1++[125]])++[[59]])
def ruleT (r:Rl):List Int:=joinL [32] (partsT r)
theorem parts_le (r:Rl):(partsT r).length≤r.2.1.length+6:=by
 unfold partsT
 simp only [List.length_append,List.length_cons,List.length_nil]
 split <;> split <;> simp only [List.length_cons,List.length_nil] <;> omega
theorem parts_mem (r:Rl) (B:Nat) (hB:5≤B) (h1:r.1.length≤B) (h2:∀ x∈r.2.1,x.length≤B) (h3:r.2.2.1.length≤B) (h4:r.2.2.2.1.length+2≤B):∀ x∈partsT r,x.length≤B:=by
 intro x hx
 unfold partsT at hx
 simp only [List.mem_append,List.mem_cons,List.not_mem_nil,or_false] at hx
 rcases hx with (((rfl | rfl) | hx) | hx) | (hx | rfl)
 ·exact h1
 ·exact Nat.le_trans (by decide) hB
 ·exact h2 x hx
 ·split at hx
  ·cases hx
  ·simp only [List.mem_cons,List.not_mem_nil,or_false] at hx
   rcases hx with rfl | rfl
   ·exact hB
   ·exact h3
 ·split at hx
  ·cases hx
  ·simp only [List.mem_cons,List.not_mem_nil,or_false] at hx
   subst hx
   simp only [List.length_append,List.length_cons,List.length_nil];omega
 ·exact Nat.le_trans (by decide) hB
abbrev RuleLe (r:Rl):Prop:=r.1.length≤10000∧r.2.1.length≤10000∧(∀ x∈r.2.1,x.length≤10000)∧r.2.2.1.length≤10000∧r.2.2.2.1.length≤10000
theorem rule_ev (r:Rl) (h:RuleLe r):E 23 [.tv [] tRl r] [] (sv (ruleT r)) []:=by
 have hp:=parts_le r
 have hj:=joinL_le 10002 (partsT r) (parts_mem r 10002 (by decide) (by have:=h.1;omega) (fun x hx=>by have:=h.2.2.1 x hx;omega) (by have:=h.2.2.2.1;omega) (by have:=h.2.2.2.2;omega))
 have hc:(partsT r).length * (10002+1)≤10006 * (10002+1):=Nat.mul_le_mul_right _ (by have:=h.2.1;omega)
 have jv:=join_ev (partsT r) [32] (by have:=h.2.1;unfold bigN;omega) (by omega)
 obtain ⟨n,ns,p,a,⟨⟩⟩:=r
 obtain ⟨h1,h2,h3,h4,h5⟩:=h
 dsimp only at h1 h2 h3 h4 h5
 have hb:(1000000:Nat)≤bigN:=by decide
 refine ev_of (vc23 n ns p a _ ?_)
 generalize bigN=big at hb ⊢
 refine ⟨⟨?_⟩,fun h=>⟨⟨?_⟩,fun h'=>⟨⟨?_⟩,⟨?_⟩,⟨?_⟩,⟨?_⟩,ruleT (n,(ns,(p,(a,())))),⟨?_⟩,rfl,rfl⟩,fun h'=>⟨⟨?_⟩,ruleT (n,(ns,(p,(a,())))),⟨?_⟩,rfl,rfl⟩⟩,fun h=>⟨fun h'=>⟨⟨?_⟩,⟨?_⟩,⟨?_⟩,⟨?_⟩,ruleT (n,(ns,(p,(a,())))),⟨?_⟩,rfl,rfl⟩,fun h'=>⟨⟨?_⟩,ruleT (n,(ns,(p,(a,())))),⟨?_⟩,rfl,rfl⟩⟩⟩
 all_goals first | omega | (simp only [List.length_append,List.length_cons,List.length_nil];omega) | skip
 all_goals (simp only [Bool.not_eq_true',Bool.not_eq_false',decide_eq_true_eq,decide_eq_false_iff_not] at h h')
 all_goals (unfold ruleT;unfold partsT at jv ⊢;dsimp only at jv ⊢)
 ·rw [if_neg h,if_neg h',← List.append_assoc] at jv ⊢;exact jv
 ·rw [if_neg h,if_pos h',List.nil_append] at jv ⊢;exact jv
 ·rw [if_pos h,if_neg h',List.append_nil,← List.append_assoc] at jv ⊢;exact jv
 ·rw [if_pos h,if_pos h',List.append_nil,List.nil_append] at jv ⊢;exact jv
theorem nameO_le {s:List Int} (h:nameO s=true):s.length≤32:=by
 simp only [nameO,Bool.and_eq_true,decide_eq_true_eq] at h;exact h.1
theorem rulO_split {r:Rl} (h:rulO r=true):nameO r.1=true∧r.2.1.length≤8∧r.2.1.all nameO=true∧(r.2.2.1=[]∨nameO r.2.2.1=true)∧actO r.2.2.2.1=true:=by
 simpa only [rulO,Bool.and_eq_true,Bool.or_eq_true,decide_eq_true_eq] using h
theorem rule_len {r:Rl} (h:rulO r=true):(ruleT r).length≤3000:=by
 obtain ⟨h1,h2,h3,h4,h5⟩:=rulO_split h
 have hp:=parts_le r
 have ha:r.2.2.2.1.length≤200:=by simp only [actO,Bool.and_eq_true,decide_eq_true_eq] at h5;exact h5.1
 have hj:=joinL_le 202 (partsT r) (parts_mem r 202 (by decide) (by have:=nameO_le h1;omega) (fun x hx=>by rw [List.all_eq_true] at h3;have:=nameO_le (h3 x hx);omega) (by
  rcases h4 with h4 | h4
  ·rw [h4];exact Nat.zero_le _
  ·have:=nameO_le h4;omega) (by omega))
 have hc:(partsT r).length * (202+1)≤14 * (202+1):=Nat.mul_le_mul_right _ (by omega)
 unfold ruleT;omega
def tkLine (t:Tk):List Int:=joinL [32] [[37,116,111,107,101,110],t.1,patT t.2.1]++[10]
def skLine (p:Pat):List Int:=joinL [32] [[37,115,107,105,112],patT p]++[10]
def lvW (a:Int):List Int:=List.getD [[],[37,108,101,102,116],[37,114,105,103,104,116],[37,110,111,110,97,115,115,111,99]] (Int.toNat a) []
def lvLine (x:Lv):List Int:=joinL [32] ([lvW x.1]++x.2.1)++[10]
def stLine (s:List Int):List Int:=joinL [32] [[37,115,116,97,114,116],s]++[10]
def twoLine:List Int:=joinL [32] [[37,37]]++[10]
def rlLine (r:Rl):List Int:=joinL [32] [ruleT r]++[10]
def grT (g:Gr):List Int:=((((g.1.flatMap tkLine++g.2.1.flatMap skLine)++g.2.2.1.flatMap lvLine)++stLine g.2.2.2.1)++twoLine)++g.2.2.2.2.1.flatMap rlLine
def printO (g:Gr):List Int×Int:=if rightO g=false then ([],1) else if 4000<(grT g).length then ([],12) else (grT g,0)
theorem line3 (a b c:List Int):(joinL [32] [a,b,c]).length≤a.length+b.length+c.length+2:=by
 rw [joinL_cons,joinL_cons,joinL_one];simp only [List.length_append,List.length_singleton];omega
theorem line2 (a b:List Int):(joinL [32] [a,b]).length≤a.length+b.length+1:=by
 rw [joinL_cons,joinL_one];simp only [List.length_append,List.length_singleton];omega
theorem lvW_le (a:Int):(lvW a).length≤9:=by
 unfold lvW
 match Int.toNat a with
 | 0=>decide
 | 1=>decide
 | 2=>decide
 | 3=>decide
 | n+4=>simp
theorem print_ev (g:Gr) (hg:Few g):E 20 [.tv [] tGr g] [] (.tup [sv (printO g).1,iv (printO g).2]) []:=by
  have hr:=right_ev g hg
  obtain ⟨tk,sk,lv,st,rl,⟨⟩⟩:=g
  have f1:=hg.tk
  have f2:=hg.tks
  have f3:=hg.sk
  have f4:=hg.sks
  have f5:=hg.lv
  have f6:=hg.lvn
  have f7:=hg.rl
  have f8:=hg.rls
  dsimp only at f1 f2 f3 f4 f5 f6 f7 f8
  have hpo:printO (tk,(sk,(lv,(st,(rl,())))))=printO (tk,(sk,(lv,(st,(rl,()))))):=rfl
  conv at hpo=>rhs;unfold printO
  refine ev_of (vc20 tk sk lv st rl _ ⟨_,⟨hr⟩,fun h=>?_,fun h=>?_⟩)
  · simp only [Bool.not_eq_true'] at h
    rw [if_pos h] at hpo
    rw [hpo];exact ⟨rfl,rfl⟩
  simp only [Bool.not_eq_false'] at h
  rw [if_neg (by rw [h];decide)] at hpo
  simp only [rightO,tokO,lvO,Bool.and_eq_true,decide_eq_true_eq,List.all_eq_true] at h
  obtain ⟨⟨ht1,ht2,ht3⟩,⟨hl1,hl2,hl3⟩,hs1,hs2,hst,hr1,hr2,hr3⟩:=h
  have b1:∀ t∈tk,(tkLine t).length≤100000:=fun t ht=>by
    have q:=f2 t ht
    have q1:=patT_len t.2.1
    have q2:=line3 [37,116,111,107,101,110] t.1 (patT t.2.1)
    unfold tkLine
    simp only [List.length_append,List.length_cons,List.length_nil] at q2 ⊢;omega
  have b2:∀ p∈sk,(skLine p).length≤100000:=fun p ht=>by
    have q:=f4 p ht
    have q1:=patT_len p
    have q2:=line2 [37,115,107,105,112] (patT p)
    unfold skLine
    simp only [List.length_append,List.length_cons,List.length_nil] at q2 ⊢;omega
  have b3:∀ x∈lv,x.2.1.length≤10000∧(lvLine x).length≤400000:=fun x hx=>by
    have q:x.2.1.length≤(lv.flatMap (·.2.1)).length:=by
      obtain ⟨a,b,rfl⟩:=List.append_of_mem hx
      simp only [List.flatMap_append,List.flatMap_cons,List.length_append];omega
    have qn:∀ s∈x.2.1,nameO s=true:=fun s hs=>by
      simp only [onceO,Bool.and_eq_true,List.all_eq_true] at hl3
      exact hl3.1 s (List.mem_flatMap.2 ⟨x,hx,hs⟩)
    have q2:=joinL_le 32 ([lvW x.1]++x.2.1) (fun s hs=>by
      simp only [List.mem_append,List.mem_singleton] at hs
      rcases hs with rfl | hs
      · have:=lvW_le x.1;omega
      · exact nameO_le (qn s hs))
    unfold lvLine
    simp only [List.length_append,List.length_cons,List.length_nil] at q2 ⊢;omega
  have b4:=nameO_le hst
  have b5:∀ r∈rl,(rlLine r).length≤3001:=fun r hx=>by
    have:=rule_len (hr3 r hx)
    unfold rlLine
    rw [joinL_one,List.length_append,List.length_singleton];omega
  refine ⟨fun z b=>∃ k:Nat,z=k∧k≤tk.length∧b=(tk.take k).flatMap tkLine,fun z _=>((tk.length:Int)-z).toNat,⟨0,rfl,by omega,rfl⟩,?_⟩
  rintro z b ⟨k,rfl,hk,rfl⟩
  have c1:∀ k,((tk.take k).flatMap tkLine).length≤20 * 100000:=fun k=>Nat.le_trans (flat_take_le tkLine 100000 tk k b1) (Nat.mul_le_mul_right _ ht2)
  refine ⟨fun h=>?_,fun h=>?_⟩
  · (simp only [decide_eq_true_eq,decide_eq_false_iff_not,Bool.not_eq_true',Bool.not_eq_false'] at h)
    have hk':k<tk.length:=by omega
    rw [Int.toNat_natCast]
    have hm:=getD_mem' (([]:List Int),(([],([],(false,()))),())) tk _ hk'
    have q:=f2 _ hm
    have q1:=b1 _ hm
    have q2:=c1 k
    unfold tkLine at q1
    rw [List.length_append,List.length_singleton] at q1
    exact ⟨⟨by omega⟩,_,⟨Pattern_ev _ q.2.1 q.2.2⟩,_,⟨line_ev [[37,116,111,107,101,110],(tk.getD k (([]:List Int),(([],([],(false,()))),()))).1,patT (tk.getD k (([]:List Int),(([],([],(false,()))),()))).2.1] _ (by show 3≤_;omega) (by omega) (by omega)⟩,⟨by omega⟩,⟨k+1,by omega,by omega,by rw [flat_snoc tkLine _ hk',tkLine,← List.append_assoc]⟩,⟨by ((try dsimp only);omega)⟩⟩
  (simp only [decide_eq_true_eq,decide_eq_false_iff_not,Bool.not_eq_true',Bool.not_eq_false'] at h)
  rw [show tk.take k=tk from List.take_of_length_le (by omega)]
  have c1:(tk.flatMap tkLine).length≤20 * 100000:=Nat.le_trans (flat_le tkLine 100000 tk b1) (Nat.mul_le_mul_right _ ht2)
  generalize hT1:tk.flatMap tkLine=T1 at c1 ⊢
  refine ⟨fun z b=>∃ k:Nat,z=k∧k≤sk.length∧b=T1++(sk.take k).flatMap skLine,fun z _=>((sk.length:Int)-z).toNat,⟨0,rfl,by omega,by simp⟩,?_⟩
  clear hk h k
  rintro z b ⟨k,rfl,hk,rfl⟩
  have c2:∀ k,((sk.take k).flatMap skLine).length≤4 * 100000:=fun k=>Nat.le_trans (flat_take_le skLine 100000 sk k b2) (Nat.mul_le_mul_right _ hs1)
  refine ⟨fun h=>?_,fun h=>?_⟩
  · (simp only [decide_eq_true_eq,decide_eq_false_iff_not,Bool.not_eq_true',Bool.not_eq_false'] at h)
    have hk':k<sk.length:=by omega
    rw [Int.toNat_natCast]
    have hm:=getD_mem' (([]:List Int),(([]:List Int),(false,()))) sk _ hk'
    have q:=f4 _ hm
    have q1:=b2 _ hm
    have q2:=c2 k
    unfold skLine at q1
    rw [List.length_append,List.length_singleton] at q1
    exact ⟨⟨by omega⟩,_,⟨Pattern_ev _ q.1 q.2⟩,_,⟨line_ev [[37,115,107,105,112],patT (sk.getD k (([]:List Int),(([]:List Int),(false,()))))] _ (by show 2≤_;omega) (by omega) (by rw [List.length_append];omega)⟩,⟨by omega⟩,⟨k+1,by omega,by omega,by rw [flat_snoc skLine _ hk',skLine,← List.append_assoc,← List.append_assoc]⟩,⟨by ((try dsimp only);omega)⟩⟩
  (simp only [decide_eq_true_eq,decide_eq_false_iff_not,Bool.not_eq_true',Bool.not_eq_false'] at h)
  rw [show sk.take k=sk from List.take_of_length_le (by omega)]
  have c2:(T1++sk.flatMap skLine).length≤3000000:=by
    have:=flat_le skLine 100000 sk b2
    have:=Nat.mul_le_mul_right 100000 hs1
    rw [List.length_append];omega
  generalize hT2:T1++sk.flatMap skLine=T2 at c2 ⊢
  refine ⟨fun z b=>∃ k:Nat,z=k∧k≤lv.length∧b=T2++(lv.take k).flatMap lvLine,fun z _=>((lv.length:Int)-z).toNat,⟨0,rfl,by omega,by simp⟩,?_⟩
  clear hk h k
  rintro z b ⟨k,rfl,hk,rfl⟩
  have c3:∀ k,((lv.take k).flatMap lvLine).length≤10 * 400000:=fun k=>Nat.le_trans (flat_take_le lvLine 400000 lv k fun x hx=>(b3 x hx).2) (Nat.mul_le_mul_right _ hl2)
  refine ⟨fun h=>?_,fun h=>?_⟩
  · (simp only [decide_eq_true_eq,decide_eq_false_iff_not,Bool.not_eq_true',Bool.not_eq_false'] at h)
    have hk':k<lv.length:=by omega
    rw [Int.toNat_natCast]
    have hm:=getD_mem' ((0:Int),(([]:List qT0),())) lv _ hk'
    have q:=b3 _ hm
    have q0:=hl1 _ hm
    simp only [lvO1,Bool.and_eq_true,decide_eq_true_eq] at q0
    have q1:=q.2
    have q2:=c3 k
    unfold lvLine at q1
    rw [List.length_append,List.length_singleton] at q1
    exact ⟨⟨by omega⟩,⟨by omega⟩,⟨by omega⟩,⟨by simp only [List.length_cons,List.length_nil];unfold bigN;omega⟩,_,⟨line_ev ([lvW (lv.getD k ((0:Int),(([]:List qT0),()))).1]++(lv.getD k ((0:Int),(([]:List qT0),()))).2.1) _ (by rw [List.length_append,List.length_singleton];omega) (by omega) (by rw [List.length_append];omega)⟩,⟨by omega⟩,⟨rfl⟩,⟨k+1,by omega,by omega,by rw [flat_snoc lvLine _ hk',lvLine,← List.append_assoc,← List.append_assoc]⟩,⟨by ((try dsimp only);omega)⟩⟩
  (simp only [decide_eq_true_eq,decide_eq_false_iff_not,Bool.not_eq_true',Bool.not_eq_false'] at h)
  rw [show lv.take k=lv from List.take_of_length_le (by omega)]
  have c3:(T2++lv.flatMap lvLine).length≤8000000:=by
    have:=flat_le lvLine 400000 lv fun x hx=>(b3 x hx).2
    have:=Nat.mul_le_mul_right 400000 hl2
    rw [List.length_append];omega
  generalize hT3:T2++lv.flatMap lvLine=T3 at c3 ⊢
  have ls:=line2 [37,115,116,97,114,116] st
  simp only [List.length_cons,List.length_nil] at ls
  have c4:((T3++stLine st)++twoLine).length≤8001000:=by
    simp only [stLine,twoLine,List.length_append,joinL_one,List.length_cons,List.length_nil];omega
  refine ⟨T3++stLine st,⟨?_⟩,(T3++stLine st)++twoLine,⟨?_⟩,?_⟩
  · have:=line_ev [[37,115,116,97,114,116],st] T3 (by show 2≤_;omega) (by omega) (by omega)
    rw [List.append_assoc] at this;exact this
  · have:=line_ev [[37,37]] (T3++stLine st) (by show 1≤_;omega) (by rw [joinL_one];show 2≤_;omega) (by rw [List.length_append] at c4;omega)
    rw [List.append_assoc] at this;exact this
  generalize hT4:(T3++stLine st)++twoLine=T4 at c4 ⊢
  refine ⟨fun z b=>∃ k:Nat,z=k∧k≤rl.length∧b=T4++(rl.take k).flatMap rlLine,fun z _=>((rl.length:Int)-z).toNat,⟨0,rfl,by omega,by simp⟩,?_⟩
  clear hk h k
  rintro z b ⟨k,rfl,hk,rfl⟩
  have c5:∀ k,((rl.take k).flatMap rlLine).length≤40 * 3001:=fun k=>Nat.le_trans (flat_take_le rlLine 3001 rl k b5) (Nat.mul_le_mul_right _ hr2)
  refine ⟨fun h=>?_,fun h=>?_⟩
  · (simp only [decide_eq_true_eq,decide_eq_false_iff_not,Bool.not_eq_true',Bool.not_eq_false'] at h)
    have hk':k<rl.length:=by omega
    rw [Int.toNat_natCast]
    have hm:=getD_mem' (([]:List Int),(([]:List qT0),(([]:List Int),(([]:List Int),())))) rl _ hk'
    have q:=f8 _ hm
    have q1:=b5 _ hm
    have q2:=c5 k
    unfold rlLine at q1
    rw [List.length_append,List.length_singleton] at q1
    exact ⟨⟨by omega⟩,_,⟨rule_ev _ q⟩,_,⟨line_ev _ _ (by show 1≤_;omega) (by omega) (by rw [List.length_append];omega)⟩,⟨by omega⟩,⟨rfl⟩,⟨k+1,by omega,by omega,by rw [flat_snoc rlLine _ hk',rlLine,← List.append_assoc,← List.append_assoc]⟩,⟨by ((try dsimp only);omega)⟩⟩
  (simp only [decide_eq_true_eq,decide_eq_false_iff_not,Bool.not_eq_true',Bool.not_eq_false'] at h)
  rw [show rl.take k=rl from List.take_of_length_le (by omega)]
  have c5:(T4++rl.flatMap rlLine).length≤9000000:=by
    have:=flat_le rlLine 3001 rl b5
    have:=Nat.mul_le_mul_right 3001 hr2
    rw [List.length_append];omega
  have hT5:grT (tk,(sk,(lv,(st,(rl,())))))=T4++rl.flatMap rlLine:=by
    unfold grT;dsimp only
    rw [hT1,hT2,hT3,hT4]
  rw [hT5] at hpo
  generalize T4++rl.flatMap rlLine=T5 at c5 hpo ⊢
  refine ⟨_,_,⟨len2_ev T5⟩,fun h2=>?_,fun h2=>⟨_,_,⟨str2_ev T5 (by unfold bigN;omega)⟩,?_⟩⟩
  · (simp only [decide_eq_true_eq,decide_eq_false_iff_not,Bool.not_eq_true',Bool.not_eq_false'] at h2)
    rw [if_pos (by omega)] at hpo
    rw [hpo];exact ⟨rfl,rfl⟩
  · (simp only [decide_eq_true_eq,decide_eq_false_iff_not,Bool.not_eq_true',Bool.not_eq_false'] at h2)
    rw [if_neg (by omega)] at hpo
    rw [hpo];exact ⟨rfl,rfl⟩
end Go.Am.R
