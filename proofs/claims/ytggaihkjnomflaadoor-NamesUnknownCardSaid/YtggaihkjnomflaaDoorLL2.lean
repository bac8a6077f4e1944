/-
  A part of the proof of a law: see the text that states it.
-/
import Derived.Test.YtggaihkjnomflaaDoorLL1
import Derived.Test.YtggaihkjnomflaaDoorVc3
set_option linter.all false
namespace Go.Am.D.L
open Go Go.Am.Pr
set_option maxRecDepth 100000
theorem lex_ev (s:List Int) (hl:s.length≤4000) (hs:∀ c∈s,0≤c∧c<256) :
  E 28 [.tv [] .str s] [] (lexOut s (glue s [] (lexS s.length 0 s))).1 (lexOut s (glue s [] (lexS s.length 0 s))).2:=by
 refine ev_out (vc28 s _ ?_)
 have hb:(1000000:Nat)≤bigN:=by decide
 generalize bigN=big at hb ⊢
 refine ⟨fun h=>?_,fun _=>?_⟩
 ·(simp only [decide_eq_true_eq,decide_eq_false_iff_not,Bool.not_eq_true',Bool.not_eq_false'] at h);omega
 refine ⟨fun out z _ _ _=>∃ f k:Nat,z=k∧k≤s.length∧s.length≤k+f∧out.length≤k∧glue s out (lexS f k (s.drop k))=glue s [] (lexS s.length 0 s),fun _ z _ _ _=>(s.length-z).toNat,⟨s.length,0,rfl,by omega,by omega,by simp,by simp⟩,?_⟩
 rintro out z a1 a2 a3 ⟨f,k,rfl,hk,hf,ho,hv⟩
 refine ⟨fun h=>?_,fun h=>?_⟩
 ·(simp only [decide_eq_true_eq,decide_eq_false_iff_not,Bool.not_eq_true',Bool.not_eq_false'] at h)
  have hn:k<s.length:=by omega
  obtain ⟨f,rfl⟩:∃ g,f=g+1:=⟨f-1,by omega⟩
  have hd:=drop_cons (0:Int) hn
  rw [hd,lexS_cons,← hd] at hv
  have hne:=next_ev s k hn (by omega) hs
  cases hx:tokK (s.drop k) with
  | error q =>
   obtain ⟨c,d⟩:=q
   rw [hx] at hv hne
   obtain ⟨kd,t,to,ok,he⟩:=hne
   change Except.error (c,k+d)=_ at hv
   have e1:E 47 [.tv [] .str s,.tv [] (.int .i64) ((k:Int)+d)] [] (.tv [] W3 (posK (s.take (k+d)))) []:=by
    have:=at_ev s ((k:Int)+d) (by omega)
    by_cases h9:k+d≤s.length
    ·have h2:(max 0 (min ((k:Int)+d) (s.length:Int))).toNat=k+d:=by omega
     rwa [h2] at this
    ·have h2:(max 0 (min ((k:Int)+d) (s.length:Int))).toNat=s.length:=by omega
     rw [h2,List.take_of_length_le (Nat.le_refl _)] at this
     rwa [List.take_of_length_le (by omega)]
   refine .inl ⟨_,_,_,_,_,_,⟨he⟩,fun _=>⟨_,_,⟨e1⟩,?_⟩,nofun⟩
   rw [← hv];rfl
  | ok q =>
   obtain ⟨kd,t,m,ok⟩:=q
   rw [hx] at hv hne
   have hm:=tokK_len (fun c hc=>hs c (List.mem_of_mem_drop hc)) hx
   simp only [List.length_drop] at hm
   have ea:(k:Int)+(m:Int)=((k+m:Nat):Int):=by omega
   have hmore:∀ l,lexS f (k+m) (s.drop (k+m))=l→glue s out (match l with
    | .error e=>.error e
    | .ok l=>.ok (if ok then (kd,t,k)::l else l))=glue s (if ok then out++[(kd,t,posK (s.take k),())] else out) l:=by
    intro l _
    cases l with
    | error e=>rfl
    | ok l=>cases ok <;> simp [glue,markOf]
   simp only [List.drop_drop] at hv
   replace hv:=(hmore _ rfl).symm.trans hv
   refine .inr ⟨_,_,_,_,⟨hne⟩,nofun,fun _=>⟨fun h2=>⟨_,_,⟨at_nat s k k rfl hk (by omega)⟩,⟨by simp only [List.length_cons,List.length_nil];omega⟩,⟨f,k+m,ea,by omega,by omega,by simp;omega,?_⟩,⟨by ((try dsimp only);omega)⟩⟩,fun h2=>⟨⟨f,k+m,ea,by omega,by omega,by omega,?_⟩,⟨by ((try dsimp only);omega)⟩⟩⟩⟩
   ·rw [h2] at hv;exact hv
   ·rw [h2] at hv;exact hv
 ·(simp only [decide_eq_true_eq,decide_eq_false_iff_not,Bool.not_eq_true',Bool.not_eq_false'] at h)
  have:s.drop k=[]:=List.drop_eq_nil_of_le (by omega)
  rw [this] at hv
  have h0:lexS f k []=.ok []:=by cases f <;> rfl
  rw [h0] at hv
  refine ⟨_,_,⟨at_nat s s.length s.length rfl (by omega) (by omega)⟩,⟨by simp only [List.length_cons,List.length_nil];omega⟩,?_⟩
  change Except.ok (out++[])=_ at hv
  rw [← hv,List.take_of_length_le (Nat.le_refl _),List.append_nil];rfl
end Go.Am.D.L
