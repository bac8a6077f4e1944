/-
  A part of the proof of a law: see the text that states it.
-/
import Derived.Test.YtggaihkjnomflaaDoorLM
import Derived.Test.YtggaihkjnomflaaDoorI
set_option linter.all false
namespace Go.Am.D.L
open Go Go.Am.Pr
set_option maxRecDepth 100000
end Go.Am.D.L
namespace Go.Am.D.L
open Go Go.Am.Pr
set_option maxRecDepth 100000
def tks:Nat→List Int→Except Int (List (Int×List Int))
 | 0,_=>.ok []
 | f+1,r=>match r with
  | []=>.ok []
  | _::_=>match tokK r with
   | .error (e,_)=>.error e
   | .ok (kd,t,m,ok)=>match tks f (r.drop m) with
    | .error e=>.error e
    | .ok l=>.ok (if ok then (kd,t)::l else l)
theorem tks_cons (f : Nat) (c : Int) (r : List Int) : tks (f + 1) (c :: r) = match tokK (c :: r) with
      | .error (e,_)=>.error e
      | .ok (kd,t,m,ok)=>match tks f ((c::r).drop m) with
        | .error e=>.error e
        | .ok l=>.ok (if ok then (kd,t)::l else l):=by
  rw [tks.eq_def]
def strip:Except (Int×Nat) (List Mk)→Except Int (List (Int×List Int))
 | .error (e,_)=>.error e
 | .ok l=>.ok (l.map fun q=>(q.1,q.2.1))
def kt (q:Mark):Int×List Int:=(q.1,q.2.1)
end Go.Am.D.L
namespace Go.Am.D
open Go Go.Am.Pr Go.Am.D.L
set_option maxRecDepth 100000
abbrev Kt:=Int×List Int
def pre (ms:List Kt):Except Int (List Kt)→Except Int (List Kt)
 | .error e=>.error e
 | .ok l=>.ok (ms++l)
theorem pre_nil (x:Except Int (List Kt)):pre [] x=x:=by cases x <;> rfl
theorem pre_pre (a b:List Kt) (x:Except Int (List Kt)):pre a (pre b x)=pre (a++b) x:=by
 cases x with
 | error e=>rfl
 | ok l=>simp [pre]
def preP (k:Nat) (ms:List Mk):Except (Int×Nat) (List Mk)→Except (Int×Nat) (List Mk)
 | .error e=>.error e
 | .ok l=>.ok (ms.map (fun q=>(q.1,q.2.1,k+q.2.2))++l)
def Tok (a:List Int) (kd:Int) (t:List Int) (ok:Bool) (B:List Int→Prop):Prop:=a≠[]∧∀ x,B x→tokK (a++x)=.ok (kd,t,a.length,ok)
abbrev Any (_:List Int):Prop:=True
def Lx (a:List Int) (ms:List Kt) (B:List Int→Prop):Prop:=∃ n,n≤a.length∧∀ f x,B x→tks (f+n) (a++x)=pre ms (tks f x)
def LxP (a:List Int) (ms:List Mk) (B:List Int→Prop):Prop:=∃ n,n≤a.length∧∀ f k x,B x→lexS (f+n) k (a++x)=preP k ms (lexS f (k+a.length) x)
theorem Lx.nil:Lx [] [] Any:=⟨0,Nat.le_refl _,fun f x _=>(pre_nil _).symm⟩
theorem LxP.nil:LxP [] [] Any:=⟨0,Nat.le_refl _,fun f k x _=>by
 simp only [List.nil_append,List.length_nil,Nat.add_zero]
 cases lexS f k x <;> rfl⟩
theorem Lx.app {a b:List Int} {ms ms':List Kt} {B B':List Int→Prop} (h:Lx a ms B) (g:Lx b ms' B') (hB:∀ x,B' x→B (b++x)):Lx (a++b) (ms++ms') B':=by
 obtain ⟨n,hn,h⟩:=h
 obtain ⟨m,hm,g⟩:=g
 refine ⟨m+n,by rw [List.length_append];omega,fun f x hx=>?_⟩
 rw [List.append_assoc,← Nat.add_assoc,h _ _ (hB x hx),g f x hx,pre_pre]
theorem LxP.app {a b:List Int} {ms ms':List Mk} {B B':List Int→Prop} (h:LxP a ms B) (g:LxP b ms' B') (hB:∀ x,B' x→B (b++x)):LxP (a++b) (ms++ms'.map fun q=>(q.1,q.2.1,a.length+q.2.2)) B':=by
 obtain ⟨n,hn,h⟩:=h
 obtain ⟨m,hm,g⟩:=g
 refine ⟨m+n,by rw [List.length_append];omega,fun f k x hx=>?_⟩
 rw [List.append_assoc,← Nat.add_assoc,h _ _ _ (hB x hx),g f _ x hx,List.length_append,← Nat.add_assoc]
 cases lexS f (k+a.length+b.length) x with
 | error e=>rfl
 | ok l=>simp [preP,Nat.add_assoc,Function.comp_def]
theorem Lx.mono {a:List Int} {ms:List Kt} {B B':List Int→Prop} (h:Lx a ms B) (hB:∀ x,B' x→B x):Lx a ms B':=by
 obtain ⟨n,hn,h⟩:=h
 exact ⟨n,hn,fun f x hx=>h f x (hB x hx)⟩
theorem LxP.mono {a:List Int} {ms:List Mk} {B B':List Int→Prop} (h:LxP a ms B) (hB:∀ x,B' x→B x):LxP a ms B':=by
 obtain ⟨n,hn,h⟩:=h
 exact ⟨n,hn,fun f k x hx=>h f k x (hB x hx)⟩
theorem Tok.lx {a:List Int} {kd:Int} {t:List Int} {ok:Bool} {B:List Int→Prop} (h:Tok a kd t ok B):Lx a (if ok then [(kd,t)] else []) B:=by
 obtain ⟨h0,h⟩:=h
 refine ⟨1,List.length_pos_iff.2 h0,fun f x hx=>?_⟩
 have hx:=h x hx
 cases a with
 | nil=>exact absurd rfl h0
 | cons c a =>
  rw [List.cons_append,tks_cons]
  rw [List.cons_append] at hx
  rw [hx]
  simp only [← List.cons_append,List.drop_left]
  cases tks f x with
  | error e=>rfl
  | ok l=>cases ok <;> rfl
theorem Tok.any {a:List Int} {kd:Int} {t:List Int} {ok:Bool} {B:List Int→Prop} (h:Tok a kd t ok B) {B':List Int→Prop} (g:∀ x,B' x→B x):Tok a kd t ok B':=⟨h.1,fun x hx=>h.2 x (g x hx)⟩
end Go.Am.D
