/-
  A part of the proof of a law: see the text that states it.
-/
import Derived.Test.YtcggbplapaeedaaDoorLM
import Derived.Test.YtcggbplapaeedaaDoorI
set_option linter.all false
namespace Go.Am.R.L
open Go Go.Am.Pr
set_option maxRecDepth 100000
theorem run_more (p:Int→Bool) (hp:p 10=false) (x:List Int):∀ r:List Int,runK p (r++10::x)=runK p r
 | []=>by simp [runK,hp]
 | c::r=>by simp only [List.cons_append,runK,run_more p hp x r]
theorem idx_more (x:List Int):∀ r:List Int,idxB (r++10::x) 10=if idxB r 10<0 then (r.length:Int) else idxB r 10
 | []=>by simp [idxB]
 | c::r=>by
  have hb:=idxB_bound r 10
  simp only [List.cons_append,idxB,idx_more x r,List.length_cons]
  by_cases h:c=10
  ·simp only [if_pos h];rfl
  ·simp only [if_neg h]
   by_cases h2:idxB r 10<0
   ·simp only [if_pos h2]
    rw [if_neg (by omega),if_pos (by omega)];omega
   ·simp only [if_neg h2]
    rw [if_neg (by omega)]
theorem one_more (x:List Int) (c:Int) (r:List Int):oneS (c::r++10::x)=oneS (c::r):=by
 rw [List.cons_append,oneS,oneS]
 by_cases h:c=92
 ·rw [if_pos h,if_pos h]
  cases r with
  | nil=>rfl
  | cons d r=>rfl
 ·rw [if_neg h,if_neg h]
theorem text_more (x:List Int):∀ (f:Nat) (r:List Int) (out:List Int) (k:Nat),r.length≤f→textL out k (r++10::x)=textL out k r
 | f,[],out,k,_=>by rw [List.nil_append,textL_cons,if_pos rfl];simp [textL]
 | 0,c::r,out,k,hf=>by simp at hf
 | f+1,c::r,out,k,hf=>by
  have hf':r.length≤f:=by simp only [List.length_cons] at hf;omega
  rw [List.cons_append,textL_cons,textL_cons,text_more x f r _ _ hf']
  cases r with
  | nil =>
   have h1:escK mayT 10=none:=by decide
   simp only [List.nil_append,h1]
  | cons d r =>
   simp only [List.cons_append,text_more x f r _ _ (by simp only [List.length_cons] at hf';omega)]
theorem act_more (w y:List Int):∀ (r:List Int) (d:Int) (k:Nat),k+r.length≤w.length→actL w d k r=.error (11,0)∨actL (w++y) d k (r++y)=actL w d k r
 | [],d,k,_=>.inl rfl
 | c::r,d,k,h=>by
  simp only [List.length_cons] at h
  rw [List.cons_append,actL,actL]
  by_cases h1:c=123
  ·simp only [if_pos h1]
   by_cases h2:4<d+1
   ·simp only [if_pos h2];exact .inr trivial
   ·simp only [if_neg h2];exact act_more w y r _ _ (by omega)
  ·simp only [if_neg h1]
   by_cases h2:c=125
   ·simp only [if_pos h2]
    by_cases h3:0<d-1
    ·simp only [if_pos h3];exact act_more w y r _ _ (by omega)
    ·simp only [if_neg h3]
     rw [List.take_append_of_le_length (by omega)]
     exact .inr rfl
   ·simp only [if_neg h2];exact act_more w y r _ _ (by omega)
theorem cls_more (x:List Int):∀ (f g:Nat) (sm:Bool) (last:Int) (has:List Bool) (k:Nat) (r:List Int),(∀ c∈r,0≤c∧c<256)→r.length≤f→r.length<g→clsL g sm last has k (r++10::x)=clsL f sm last has k r
 | f,0,sm,last,has,k,r,_,_,hg=>by omega
 | f,g+1,sm,last,has,k,[],_,_,_=>by
  rw [List.nil_append,clsL_cons,if_pos rfl]
  cases f <;> rfl
 | 0,g+1,sm,last,has,k,c::r,_,hf,_=>by simp at hf
 | f+1,g+1,sm,last,has,k,c::r,hr,hf,hg=>by
  have hf':r.length≤f:=by simp only [List.length_cons] at hf;omega
  have hg':r.length<g:=by simp only [List.length_cons] at hg;omega
  have hr':∀ b∈r,0≤b∧b<256:=fun b hb=>hr b (List.mem_cons_of_mem _ hb)
  rw [List.cons_append,clsL_cons,clsL_cons]
  by_cases h1:c=10
  ·simp only [if_pos h1]
  ·simp only [if_neg h1]
   by_cases h2:c=93
   ·simp only [if_pos h2]
   ·simp only [if_neg h2]
    by_cases h3:c=45
    ·simp only [if_pos h3]
     by_cases h4:last<0
     ·simp only [if_pos h4]
     ·simp only [if_neg h4]
      cases r with
      | nil=>simp only [List.nil_append,if_pos]
      | cons d r =>
       have ho:=one_more x d r
       rw [List.cons_append] at ho
       simp only [List.cons_append,ho]
       by_cases h5:d=10
       ·simp only [if_pos h5]
       ·simp only [if_neg h5]
        by_cases h6:d=93
        ·simp only [if_pos h6]
        ·simp only [if_neg h6]
         cases hx:oneS (d::r) with
         | none=>rfl
         | some q =>
          obtain ⟨y,j⟩:=q
          obtain ⟨_,_,h8,h9⟩:=oneS_byte hr' hx
          simp only
          have hd:(d::(r++10::x)).drop j=(d::r).drop j++10::x:=by
           rw [← List.cons_append,List.drop_append_of_le_length h9]
          have hld:((d::r).drop j).length≤(d::r).length-1:=by rw [List.length_drop];omega
          simp only [List.length_cons] at hld hf' hg'
          rw [hd,cls_more x f g _ _ _ _ _ (fun b hb=>hr' b (List.mem_of_mem_drop hb)) (by omega) (by omega)]
    ·simp only [if_neg h3]
     have ho:=one_more x c r
     rw [List.cons_append] at ho
     rw [ho]
     cases hx:oneS (c::r) with
     | none=>rfl
     | some q =>
      obtain ⟨y,j⟩:=q
      obtain ⟨_,_,h8,h9⟩:=oneS_byte hr hx
      simp only
      have hd:(c::(r++10::x)).drop j=(c::r).drop j++10::x:=by
       rw [← List.cons_append,List.drop_append_of_le_length h9]
      have hld:((c::r).drop j).length≤(c::r).length-1:=by rw [List.length_drop];omega
      simp only [List.length_cons] at hld
      rw [hd,cls_more x f g _ _ _ _ _ (fun b hb=>hr b (List.mem_of_mem_drop hb)) (by omega) (by omega)]
theorem word_more (x:List Int) (r:List Int):wordK (37::r++10::x)=wordK (37::r):=by
 unfold wordK
 simp only [List.cons_append,List.tail_cons,run_more lowerK (by decide)]
 have h1:(r++10::x).head?=some 37↔r.head?=some 37:=by
  cases r with
  | nil=>simp
  | cons d r=>simp
 have h2:∀ n,n≤r.length→(r++10::x).take n=r.take n:=fun n h=>List.take_append_of_le_length h
 have hg:(if r.head?=some 37 then 1 else runK lowerK r)≤r.length:=by
  have hrl:=runK_le lowerK r
  split
  ·rename_i h6
   cases r with
   | nil=>cases h6
   | cons d r=>simp
  ·exact hrl
 have e:(if (r++10::x).head?=some 37 then 1 else runK lowerK r)=(if r.head?=some 37 then 1 else runK lowerK r):=by
  by_cases h9:r.head?=some 37
  ·rw [if_pos h9,if_pos (h1.2 h9)]
  ·rw [if_neg h9,if_neg (fun h=>h9 (h1.1 h))]
 rw [e,h2 _ hg]
 first | rfl | (congr 1;done) | simp
theorem tok_more (x:List Int) (c:Int) (r:List Int) (hr:∀ b∈c::r,0≤b∧b<256):tokK (c::r++10::x)=tokK (c::r)∨∃ d,tokK (c::r)=.error (11,d):=by
 have hc1:(c::(r++10::x))=(c::r)++10::x:=rfl
 rw [List.cons_append,tokK,tokK]
 by_cases h1:c=32∨c=9∨c=10∨c=13
 ·simp only [if_pos h1];exact .inl trivial
 simp only [if_neg h1]
 by_cases h2:c=35
 ·simp only [if_pos h2]
  left
  rw [hc1,idx_more]
  have hb:=idxB_bound (c::r) 10
  by_cases h3:idxB (c::r) 10<0
  ·simp only [if_pos h3]
   rw [if_neg (by omega),Int.toNat_natCast]
  ·simp only [if_neg h3]
 simp only [if_neg h2]
 by_cases h3:letterK c=true
 ·simp only [if_pos h3]
  left
  rw [hc1,run_more partK (by decide),List.take_append_of_le_length (runK_le partK _)]
 simp only [if_neg h3]
 by_cases h4:c=37
 ·simp only [if_pos h4]
  left
  subst h4
  rw [hc1,word_more]
 simp only [if_neg h4]
 by_cases h5:c=34
 ·simp only [if_pos h5]
  left
  unfold textK
  rw [List.tail_cons,List.tail_cons,text_more x r.length r _ _ (Nat.le_refl _)]
 simp only [if_neg h5]
 by_cases h6:c=91
 ·simp only [if_pos h6]
  left
  unfold clsK
  rw [List.tail_cons,List.tail_cons,cls_more x (c::r).length _ _ _ _ _ r (fun b hb=>hr b (List.mem_cons_of_mem _ hb)) (by simp) (by simp;omega)]
 simp only [if_neg h6]
 by_cases h7:c=123
 ·simp only [if_pos h7]
  unfold actK
  rcases act_more (c::r) (10::x) (c::r) 0 0 (by simp) with h | h
  ·right;rw [h];exact ⟨0,rfl⟩
  ·left;rw [hc1,h]
 simp only [if_neg h7]
 exact .inl trivial
end Go.Am.R.L
namespace Go.Am.R.L
open Go Go.Am.Pr
set_option maxRecDepth 100000
def tks:Nat→List Int→Except Int (List (Int×List Int))
 | 0,_=>.ok []
 | f+1,r=>match r with
  | []=>.ok []
  | _::_=>match tokK r with
   | .error (e,_)=>.error e
   | .ok (kd,t,m,ok)=>match tks f (r.drop m) with
    | .error e=>.error e
    | .ok l=>.ok (if ok then (kd,t)::l else l)
theorem tks_cons (f : Nat) (c : Int) (r : List Int) : tks (f + 1) (c :: r) = match tokK (c :: r) with
      | .error (e,_)=>.error e
      | .ok (kd,t,m,ok)=>match tks f ((c::r).drop m) with
        | .error e=>.error e
        | .ok l=>.ok (if ok then (kd,t)::l else l):=by
  rw [tks.eq_def]
def strip:Except (Int×Nat) (List Mk)→Except Int (List (Int×List Int))
 | .error (e,_)=>.error e
 | .ok l=>.ok (l.map fun q=>(q.1,q.2.1))
theorem strip_lex:∀ (f k:Nat) (r:List Int),strip (lexS f k r)=tks f r
 | 0,k,r=>rfl
 | f+1,k,[]=>rfl
 | f+1,k,c::r=>by
  rw [lexS_cons,tks_cons]
  cases h:tokK (c::r) with
  | error q=>obtain ⟨e,d⟩:=q;rfl
  | ok q =>
   obtain ⟨kd,t,m,ok⟩:=q
   have ih:=strip_lex f (k+m) ((c::r).drop m)
   simp only
   rw [← ih]
   cases lexS f (k+m) ((c::r).drop m) with
   | error q=>obtain ⟨e,d⟩:=q;rfl
   | ok l=>cases ok <;> rfl
def kt (q:Mark):Int×List Int:=(q.1,q.2.1)
end Go.Am.R.L
namespace Go.Am.R
open Go Go.Am.Pr Go.Am.R.L
set_option maxRecDepth 100000
abbrev Kt:=Int×List Int
def pre (ms:List Kt):Except Int (List Kt)→Except Int (List Kt)
 | .error e=>.error e
 | .ok l=>.ok (ms++l)
theorem pre_nil (x:Except Int (List Kt)):pre [] x=x:=by cases x <;> rfl
theorem pre_pre (a b:List Kt) (x:Except Int (List Kt)):pre a (pre b x)=pre (a++b) x:=by
 cases x with
 | error e=>rfl
 | ok l=>simp [pre]
def preP (k:Nat) (ms:List Mk):Except (Int×Nat) (List Mk)→Except (Int×Nat) (List Mk)
 | .error e=>.error e
 | .ok l=>.ok (ms.map (fun q=>(q.1,q.2.1,k+q.2.2))++l)
def Tok (a:List Int) (kd:Int) (t:List Int) (ok:Bool) (B:List Int→Prop):Prop:=a≠[]∧∀ x,B x→tokK (a++x)=.ok (kd,t,a.length,ok)
abbrev Any (_:List Int):Prop:=True
def Sep (x:List Int):Prop:=∀ c r,x=c::r→partK c=false
def Lx (a:List Int) (ms:List Kt) (B:List Int→Prop):Prop:=∃ n,n≤a.length∧∀ f x,B x→tks (f+n) (a++x)=pre ms (tks f x)
def LxP (a:List Int) (ms:List Mk) (B:List Int→Prop):Prop:=∃ n,n≤a.length∧∀ f k x,B x→lexS (f+n) k (a++x)=preP k ms (lexS f (k+a.length) x)
theorem Lx.nil:Lx [] [] Any:=⟨0,Nat.le_refl _,fun f x _=>(pre_nil _).symm⟩
theorem LxP.nil:LxP [] [] Any:=⟨0,Nat.le_refl _,fun f k x _=>by
 simp only [List.nil_append,List.length_nil,Nat.add_zero]
 cases lexS f k x <;> rfl⟩
theorem Lx.app {a b:List Int} {ms ms':List Kt} {B B':List Int→Prop} (h:Lx a ms B) (g:Lx b ms' B') (hB:∀ x,B' x→B (b++x)):Lx (a++b) (ms++ms') B':=by
 obtain ⟨n,hn,h⟩:=h
 obtain ⟨m,hm,g⟩:=g
 refine ⟨m+n,by rw [List.length_append];omega,fun f x hx=>?_⟩
 rw [List.append_assoc,← Nat.add_assoc,h _ _ (hB x hx),g f x hx,pre_pre]
theorem LxP.app {a b:List Int} {ms ms':List Mk} {B B':List Int→Prop} (h:LxP a ms B) (g:LxP b ms' B') (hB:∀ x,B' x→B (b++x)):LxP (a++b) (ms++ms'.map fun q=>(q.1,q.2.1,a.length+q.2.2)) B':=by
 obtain ⟨n,hn,h⟩:=h
 obtain ⟨m,hm,g⟩:=g
 refine ⟨m+n,by rw [List.length_append];omega,fun f k x hx=>?_⟩
 rw [List.append_assoc,← Nat.add_assoc,h _ _ _ (hB x hx),g f _ x hx,List.length_append,← Nat.add_assoc]
 cases lexS f (k+a.length+b.length) x with
 | error e=>rfl
 | ok l=>simp [preP,Nat.add_assoc,Function.comp_def]
theorem Lx.mono {a:List Int} {ms:List Kt} {B B':List Int→Prop} (h:Lx a ms B) (hB:∀ x,B' x→B x):Lx a ms B':=by
 obtain ⟨n,hn,h⟩:=h
 exact ⟨n,hn,fun f x hx=>h f x (hB x hx)⟩
theorem LxP.mono {a:List Int} {ms:List Mk} {B B':List Int→Prop} (h:LxP a ms B) (hB:∀ x,B' x→B x):LxP a ms B':=by
 obtain ⟨n,hn,h⟩:=h
 exact ⟨n,hn,fun f k x hx=>h f k x (hB x hx)⟩
theorem Tok.lx {a:List Int} {kd:Int} {t:List Int} {ok:Bool} {B:List Int→Prop} (h:Tok a kd t ok B):Lx a (if ok then [(kd,t)] else []) B:=by
 obtain ⟨h0,h⟩:=h
 refine ⟨1,List.length_pos_iff.2 h0,fun f x hx=>?_⟩
 have hx:=h x hx
 cases a with
 | nil=>exact absurd rfl h0
 | cons c a =>
  rw [List.cons_append,tks_cons]
  rw [List.cons_append] at hx
  rw [hx]
  simp only [← List.cons_append,List.drop_left]
  cases tks f x with
  | error e=>rfl
  | ok l=>cases ok <;> rfl
theorem Tok.any {a:List Int} {kd:Int} {t:List Int} {ok:Bool} {B:List Int→Prop} (h:Tok a kd t ok B) {B':List Int→Prop} (g:∀ x,B' x→B x):Tok a kd t ok B':=⟨h.1,fun x hx=>h.2 x (g x hx)⟩
theorem tk_space {c:Int} (h:c=32∨c=9∨c=10∨c=13):Tok [c] 0 [] false Any:=⟨nofun,fun x _=>by rw [List.cons_append,List.nil_append,tokK,if_pos h];rfl⟩
theorem tk_sign {c:Int} (h:c=43∨c=58∨c=124∨c=59):Tok [c] (signK c) [] true Any:=⟨nofun,fun x _=>by
 have h1:∀ y,tokK (c::y)=.ok (signK c,[],1,true):=fun y=>by
  rcases h with rfl | rfl | rfl | rfl
  all_goals (rw [tokK,if_neg (by decide),if_neg (by decide),if_neg (by decide),if_neg (by decide),if_neg (by decide),if_neg (by decide),if_neg (by decide),if_pos (by decide)])
 exact h1 _⟩
theorem runK_app (p:Int→Bool):∀ (w x:List Int),(∀ c∈w,p c=true)→(∀ c r,x=c::r→p c=false)→runK p (w++x)=w.length
 | [],[],_,_=>rfl
 | [],c::r,_,h=>by simp [runK,h c r rfl]
 | c::w,x,h,g=>by
  rw [List.cons_append,runK,if_pos (h c (List.mem_cons_self ..)),runK_app p w x (fun b hb=>h b (List.mem_cons_of_mem _ hb)) g,List.length_cons]
theorem runK_all (p:Int→Bool):∀ (w:List Int),runK p w=w.length→∀ c∈w,p c=true
 | [],_,c,hc=>by cases hc
 | a::w,h,c,hc=>by
  rw [runK] at h
  split at h
  ·rename_i ha
   rcases List.mem_cons.1 hc with rfl | hc
   ·exact ha
   ·exact runK_all p w (by simpa using h) c hc
  ·simp at h
theorem tk_name {w:List Int} (h:nameK w=true) (hl:w.length≤32):Tok w 1 w true Sep:=by
 unfold nameK at h
 simp only [Bool.and_eq_true,Bool.not_eq_true',decide_eq_true_eq,decide_eq_false_iff_not] at h
 obtain ⟨⟨h0,h1⟩,h2⟩:=h
 refine ⟨h0,fun x hx=>?_⟩
 have hr:=runK_app partK w x (runK_all partK w h2) hx
 cases w with
 | nil=>exact absurd rfl h0
 | cons c w =>
  have h1:letterK c=true:=h1
  have hn:¬ (c=32∨c=9∨c=10∨c=13):=by
   intro q;rcases q with rfl | rfl | rfl | rfl <;> exact absurd h1 (by decide)
  have hn2:c≠35:=by rintro rfl;exact absurd h1 (by decide)
  rw [List.cons_append] at hr ⊢
  rw [tokK,if_neg hn,if_neg hn2,if_pos h1,hr,if_neg (by omega)]
  have e:(c::(w++x)).take (c::w).length=c::w:=by rw [← List.cons_append,List.take_left]
  rw [e]
theorem lower_part {c:Int} (h:partK c=false):lowerK c=false:=by
 cases hl:lowerK c with
 | false=>rfl
 | true =>
  exfalso
  unfold lowerK at hl
  simp only [Bool.and_eq_true,decide_eq_true_eq] at hl
  obtain ⟨h1,h2⟩:=hl
  have:∀ n:Nat,n<26→partK (97+(n:Int))=true:=by decide
  have:=this (c-97).toNat (by omega)
  have e:(97:Int)+((c-97).toNat:Int)=c:=by omega
  rw [e,h] at this;cases this
theorem tk_word {w:List Int} (hw:w∈wordsL) (hl:∀ c∈w,lowerK c=true) (h37:w.head?≠some 37) (h0:w≠[]):Tok (37::w) 2 w true Sep:=by
 refine ⟨nofun,fun x hx=>?_⟩
 have hr:=runK_app lowerK w x hl (fun c r e=>lower_part (hx c r e))
 have hh:(w++x).head?≠some 37:=by
  cases w with
  | nil=>exact absurd rfl h0
  | cons d w=>simpa using h37
 rw [List.cons_append,tokK,if_neg (by decide),if_neg (by decide),if_neg (by decide),if_pos rfl]
 unfold wordK
 simp only [List.tail_cons,if_neg hh,hr,List.take_left,if_pos hw,tokOf,List.length_cons]
 rw [Nat.add_comm]
theorem tk_two:Tok [37,37] 2 [37] true Any:=by
 refine ⟨nofun,fun x _=>?_⟩
 show tokK (37::37::x)=_
 rw [tokK,if_neg (by decide),if_neg (by decide),if_neg (by decide),if_pos rfl]
 unfold wordK
 simp only [List.tail_cons,List.head?_cons,if_pos,List.take_succ_cons,List.take_zero,if_pos (show ([37]:List Int)∈wordsL by decide),tokOf]
 rfl
theorem Lx.told {s:List Int} {ms:List Kt} {B:List Int→Prop} (h:Lx s ms B) (hB:B []):tks s.length s=.ok ms:=by
 obtain ⟨n,hn,h⟩:=h
 have:=h (s.length-n) [] hB
 rw [List.append_nil,Nat.sub_add_cancel hn] at this
 rw [this]
 have e:tks (s.length-n) []=.ok []:=by cases s.length-n <;> rfl
 rw [e];exact congrArg Except.ok (List.append_nil ms)
theorem LxP.told {s:List Int} {ms:List Mk} {B:List Int→Prop} (h:LxP s ms B) (hB:B []):lexS s.length 0 s=.ok ms:=by
 obtain ⟨n,hn,h⟩:=h
 have:=h (s.length-n) 0 [] hB
 rw [List.append_nil,Nat.sub_add_cancel hn] at this
 rw [this,lexS_nil]
 simp [preP]
theorem readK_P {s:List Int} {ms:List Mk} (h:lexS s.length 0 s=.ok ms):readK s=marksK (ms.map (markOf s)++[(0,([],(posK s,())))]):=by
 unfold readK lexK
 rw [h];rfl
theorem readK_of {s:List Int} {ms:List Kt} (h:tks s.length s=.ok ms):∃ r:List L.Mark,r.map kt=ms++[(0,[])]∧readK s=marksK r:=by
 rw [← strip_lex s.length 0 s] at h
 cases hx:lexS s.length 0 s with
 | error q=>rw [hx] at h;cases h
 | ok l =>
  rw [hx] at h
  have h:l.map (fun q=>(q.1,q.2.1))=ms:=by cases h;rfl
  refine ⟨_,?_,readK_P hx⟩
  rw [List.map_append,List.map_map,← h]
  rfl
end Go.Am.R
namespace Go.Am.R
open Go Go.Am.Pr Go.Am.R.L
set_option maxRecDepth 100000
abbrev kts (r:List L.Mark):List Kt:=r.map kt
def hdk:List Kt→Kt
 | []=>(0,[])
 | m::_=>m
theorem kt_hd (r:List L.Mark):kt (hd r)=hdk (kts r):=by
 cases r with
 | nil=>rw [hd_nil];rfl
 | cons m r=>rw [hd_cons];rfl
theorem hd1 (r:List L.Mark):(hd r).1=(hdk (kts r)).1:=congrArg Prod.fst (kt_hd r)
theorem hd2 (r:List L.Mark):(hd r).2.1=(hdk (kts r)).2:=congrArg Prod.snd (kt_hd r)
theorem kts_tail (r:List L.Mark):kts r.tail=(kts r).tail:=by cases r <;> rfl
theorem rightK_fwd:∀ (ns:Ns) (r:List L.Mark) (acc:Ns) (tl:List Kt),kts r=ns.map (fun n=>((1:Int),n))++tl→(hdk tl).1≠1→acc.length+ns.length≤8→∃ r',rightK r acc=(none,r',acc++ns)∧kts r'=tl
 | [],r,acc,tl,h,h1,_=>⟨r,by rw [rightK_stop (by rw [hd1,h];exact h1),List.append_nil],h⟩
 | n::ns,r,acc,tl,h,h1,hl=>by
  simp only [List.length_cons] at hl
  have e1:(hd r).1=1:=by rw [hd1,h];rfl
  have e2:(hd r).2.1=n:=by rw [hd2,h];rfl
  obtain ⟨r',g1,g2⟩:=rightK_fwd ns r.tail (acc++[n]) tl (by rw [kts_tail,h];rfl) h1 (by simp only [List.length_append,List.length_cons,List.length_nil];omega)
  exact ⟨r',by rw [rightK_go e1 (by omega),e2,g1];simp,g2⟩
def precM (p:List Int):List Kt:=if p=[] then [] else [(2,precT),(1,p)]
def actM (a:List Int):List Kt:=if a=[] then [] else [(9,a)]
abbrev altM (ns:Ns) (p a:List Int):List Kt:=ns.map (fun n=>((1:Int),n))++(precM p++actM a)
theorem actK_fwd {r:List L.Mark} {a:List Int} {tl:List Kt} (h:kts r=actM a++tl) (h9:(hdk tl).1≠9):∃ r',L.actK=L.actK∧Go.Am.R.actK r=(a,r')∧kts r'=tl:=by
 unfold actM at h
 split at h
 ·rename_i ha
  refine ⟨r,rfl,?_,h⟩
  rw [actK_n (by rw [hd1,h];exact h9),ha]
 ·refine ⟨r.tail,rfl,?_,by rw [kts_tail,h];rfl⟩
  rw [actK_y (by rw [hd1,h];rfl),hd2,h];rfl
theorem altK_fwd {r:List L.Mark} {ns:Ns} {p a:List Int} {tl:List Kt} (left:List Int) (s:G) (h:kts r=altM ns p a++tl) (ht:(hdk tl).1=7∨(hdk tl).1=8) (hn:ns.length≤8) (hs:s.rl.length<40) :
  ∃ r',altK left r s=(none,r',{ s with rl:=s.rl++[(left,(ns,(p,(a,()))))] })∧kts r'=tl:=by
 have ht1:(hdk tl).1≠1:=by omega
 have ht9:(hdk tl).1≠9:=by omega
 have ht2:(hdk tl).1≠2:=by omega
 have hx:(hdk (precM p++(actM a++tl))).1≠1:=by
  unfold precM actM
  split
  ·split
   ·exact ht1
   ·show (9:Int)≠1;decide
  ·show (2:Int)≠1;decide
 obtain ⟨r1,g1,g2⟩:=rightK_fwd ns r [] (precM p++(actM a++tl)) (by rw [h];simp) hx (by simpa using hn)
 rw [altK,if_neg (by omega),g1,List.nil_append]
 simp only
 by_cases hp:p=[]
 ·have g3:kts r1=actM a++tl:=by rw [g2,precM,if_pos hp];rfl
  obtain ⟨r2,_,k1,k2⟩:=actK_fwd g3 ht9
  have hn2:(hdk (actM a++tl)).1≠2:=by
   unfold actM
   split
   ·exact ht2
   ·show (9:Int)≠2;decide
  refine ⟨r2,?_,k2⟩
  rw [altF,if_neg (fun q=>by rw [hd1,g3] at q;exact hn2 q.1),altE,k1,hp]
 ·have g3:kts r1=(2,precT)::(1,p)::(actM a++tl):=by rw [g2,precM,if_neg hp];rfl
  have g4:kts r1.tail=(1,p)::(actM a++tl):=by rw [kts_tail,g3];rfl
  have g5:kts r1.tail.tail=actM a++tl:=by rw [kts_tail,g4];rfl
  obtain ⟨r2,_,k1,k2⟩:=actK_fwd g5 ht9
  refine ⟨r2,?_,k2⟩
  rw [altF,if_pos ⟨by rw [hd1,g3];rfl,by rw [hd2,g3];rfl⟩,if_pos (by rw [hd1,g4];rfl),altE,k1,hd2,g4]
  rfl
theorem altsK_end {r:List L.Mark} {ns:Ns} {p a:List Int} {tl:List Kt} (f:Nat) (left:List Int) (s:G) (h:kts r=altM ns p a++(8,[])::tl) (hn:ns.length≤8) (hs:s.rl.length<40) :
  ∃ r',altsK (f+1) left r s=(none,r',{ s with rl:=s.rl++[(left,(ns,(p,(a,()))))] })∧kts r'=tl:=by
 obtain ⟨r',g1,g2⟩:=altK_fwd left s h (.inr rfl) hn hs
 refine ⟨r'.tail,?_,by rw [kts_tail,g2];rfl⟩
 rw [altsK,g1]
 simp only
 rw [if_neg (by rw [hd1,g2];exact (by decide:(8:Int)≠7)),if_pos (by rw [hd1,g2];rfl)]
theorem ruleK_fwd {r:List L.Mark} {left:List Int} {tl:List Kt} (s:G) (h:kts r=(1,left)::(6,[])::tl):∃ r',ruleK r s=altsK (r.length+1) left r' s∧kts r'=tl:=by
 have h2:kts r.tail=(6,[])::tl:=by rw [kts_tail,h];rfl
 refine ⟨r.tail.tail,?_,by rw [kts_tail,h2];rfl⟩
 rw [ruleK,if_pos (by rw [hd1,h];rfl),if_pos (by rw [hd1,h2];rfl),hd2,h]
 rfl
theorem kts_len (r:List L.Mark):r.length=(kts r).length:=(List.length_map kt).symm
theorem rulesK_stop {r:List L.Mark} {f:Nat} {s:G} (h:(hdk (kts r)).1=0) (hs:s.rl≠[]):rulesK f r s=(none,r,s):=by
 cases f with
 | zero=>rfl
 | succ f=>rw [rulesK,if_neg (fun q=>q.elim hs (fun q=>q (by rw [hd1];exact h)))]
theorem rulesK_go {r r':List L.Mark} {f:Nat} {s s':G} (h:(hdk (kts r)).1≠0) (g:ruleK r s=(none,r',s')):rulesK (f+1) r s=rulesK f r' s':=by
 rw [rulesK,if_pos (.inr (by rw [hd1];exact h)),g]
theorem declsK_end {r:List L.Mark} {f:Nat} {s:G} {tl:List Kt} (h:kts r=(2,[37])::tl):declsK (f+1) r s=(none,r.tail,s):=by
 have h1:(hd r).1=2:=by rw [hd1,h];rfl
 have h2:(hd r).2.1=[37]:=by rw [hd2,h];rfl
 rw [declsK,if_neg (fun q=>q h1),if_pos h2]
theorem marksK_ok {l r':List L.Mark} {s':G} (h:allK l G0=(none,r',s')):marksK l=(grOf s',dg0):=by rw [marksK,h]
end Go.Am.R
namespace Go.Am.R
open Go Go.Am.Pr Go.Am.R.L
set_option maxRecDepth 100000
end Go.Am.R
namespace Go.Am.R
open Go Go.Am.Pr Go.Am.R.L
set_option maxRecDepth 100000
def escB (which:List Int) (c:Int):List Int:=if c=10 then [92,110] else if c=9 then [92,116] else if 0≤idxB which c then [92,c] else [c]
def escT (which:List Int) (w:List Int):List Int:=w.flatMap (escB which)
abbrev qT:List Int:=[92,34]
theorem idxB_mem (c:Int):∀ l:List Int,0≤idxB l c↔c∈l
 | []=>by simp [idxB]
 | a::l=>by
  have ih:=idxB_mem c l
  have hb:=idxB_bound l c
  rw [List.mem_cons]
  unfold idxB
  split
  ·rename_i h;exact ⟨fun _=>.inl h.symm,fun _=>by omega⟩
  ·rename_i h
   split
   ·rename_i h2
    refine ⟨fun q=>by omega,fun q=>?_⟩
    rcases q with q | q
    ·exact absurd q.symm h
    ·have:=ih.2 q;omega
   ·rename_i h2
    exact ⟨fun _=>.inr (ih.1 (by omega)),fun _=>by omega⟩
theorem idxB_qT (c:Int):0≤idxB qT c↔c=92∨c=34:=by
 rw [idxB_mem];simp
theorem textL_esc (out:List Int) (k:Nat) (c:Int) (x:List Int) (hc:0≤c∧c<256):textL out k (escB qT c++x)=textL (out++[c]) (k+(escB qT c).length) x:=by
 unfold escB
 by_cases h10:c=10
 ·subst h10
  rw [if_pos rfl]
  show textL out k (92::110::x)=_
  rw [textL_cons,if_neg (by decide),if_neg (by decide),if_pos rfl]
  have:escK mayT 110=some 10:=by decide
  simp only [this];rfl
 rw [if_neg h10]
 by_cases h9:c=9
 ·subst h9
  rw [if_pos rfl]
  show textL out k (92::116::x)=_
  rw [textL_cons,if_neg (by decide),if_neg (by decide),if_pos rfl]
  have:escK mayT 116=some 9:=by decide
  simp only [this];rfl
 rw [if_neg h9]
 by_cases h:0≤idxB qT c
 ·rw [if_pos h]
  show textL out k (92::c::x)=_
  rw [textL_cons,if_neg (by decide),if_neg (by decide),if_pos rfl]
  have:escK mayT c=some c:=by
   rcases (idxB_qT c).1 h with rfl | rfl <;> decide
  simp only [this];rfl
 ·rw [if_neg h]
  have hn:¬ (c=92∨c=34):=fun q=>h ((idxB_qT c).2 q)
  show textL out k (c::x)=_
  rw [textL_cons,if_neg h10,if_neg (by omega),if_neg (by omega)]
  rfl
theorem textL_escT:∀ (w:List Int) (out:List Int) (k:Nat) (x:List Int),(∀ c∈w,0≤c∧c<256)→textL out k (escT qT w++x)=textL (out++w) (k+(escT qT w).length) x
 | [],out,k,x,_=>by simp [escT]
 | c::w,out,k,x,h=>by
  have e:escT qT (c::w)=escB qT c++escT qT w:=rfl
  rw [e,List.append_assoc,textL_esc _ _ _ _ (h c (List.mem_cons_self ..)),textL_escT w _ _ x (fun b hb=>h b (List.mem_cons_of_mem _ hb)),List.append_assoc,List.length_append,Nat.add_assoc]
  rfl
theorem tk_text {w:List Int} (hw:∀ c∈w,0≤c∧c<256) (h0:w≠[]) (hl:w.length≤32):Tok ([34]++escT qT w++[34]) 3 w true Any:=by
 refine ⟨by simp,fun x _=>?_⟩
 have e:[34]++escT qT w++[34]++x=34::(escT qT w++34::x):=by simp
 rw [e,tok34,textK,List.tail_cons,textL_escT w [] 1 _ hw,List.nil_append,textL_cons,if_neg (by decide),if_pos rfl,if_neg (by have:=List.length_pos_iff.2 h0;omega),if_neg (by omega)]
 simp [tokOf]
 omega
end Go.Am.R
